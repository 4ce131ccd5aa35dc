/- MachineEnvs: words compared, fresh records compared: what is asked. -/
import Derived.Test.YtjpnpaboahbncaaMVn
import Derived.Test.YtjpnpaboahbncaaMVk
import Derived.Test.YtjpnpaboahbncaaMVi
import Derived.Test.YtjpnpaboahbncaaMVm
import Derived.Test.YtjpnpaboahbncaaMVb
set_option linter.unusedVariables false
set_option linter.unusedSimpArgs false
set_option linter.unusedVariables false
set_option linter.unusedSimpArgs false
set_option maxRecDepth 100000
namespace Go.Proofs.Ytjpnpaboahbncaa.Vc
open Go Go.RowKit Sx Cn Dc Ck
noncomputable section
def R1.blkW (r : R1) : Blk := ints .u64 r.n r.f
def verEqW (r s : R1) : V := verF P con0 3 3 105 [] (.loop Int [] (fun _ => some (cntL 5 (eq1I r s) r.n)) .nil .nil) [r.arg 0, s.arg 1] ⟨[(0, r.blkW), (1, s.blkW)], 2, fun _ => True⟩
  (finV (X := Unit) 2 2 (fun _ _ => some ()) (fun _ _ => []) (fun _ => True) (fun _ => .c (.bv (r.eqB s))) (fun _ => []))
def conEqW : List SV → Hp → Out (SV × Hp) := fun args H => match args with
  | [.c (.slc k _ _ _ n cap), .c (.slc k' _ _ _ n' cap')] => fN k fun k => fN k' fun k' => match rowFn H.h k 0, rowFn H.h k' 0 with
    | some f, some f' => useP [k, k'] 2 [R1.arg ⟨n.v, cap.v, f⟩ 0, R1.arg ⟨n'.v, cap'.v, f'⟩ 1] [(0, R1.blkW ⟨n.v, cap.v, f⟩), (1, R1.blkW ⟨n'.v, cap'.v, f'⟩)] (.need (n.v ≤ 1000000) (.leaf (.c (.bv (R1.eqB ⟨n.v, cap.v, f⟩ ⟨n'.v, cap'.v, f'⟩)), ⟨[], 2, fun _ => True⟩))) args H
    | _, _ => .bad 430
  | _ => .bad 431
/-- Records of tasks that have not begun. -/
def freshC : List Col := [.ci .i64 fun _ _ => 0, .ci .i64 fun _ _ => -1, .ci .i64 fun _ _ => 0, .ci .i64 fun _ _ => 0, .ci .i64 fun _ _ => -1, .cc .nils, .cb fun _ _ => false]
def freshB (n c : Nat) : Blk := .row 116 c n freshC
def verFresh (n c m d : Nat) : V := verF P con0 3 4 130 [] (.loop Int [] (fun _ => some (cntL 5 (fun x => 0 ≤ x ∧ x ≤ n) n)) .nil .nil) [.c (slK 0 7 n c), .c (slK 1 7 m d)] ⟨[(0, freshB n c), (1, freshB m d)], 2, fun _ => True⟩
  (finV (X := Unit) 2 2 (fun _ _ => some ()) (fun _ _ => []) (fun _ => True) (fun _ => .c (.bv (decide (n = m)))) (fun _ => [(0, freshB n c), (1, freshB m d)]))
def conFresh : List SV → Hp → Out (SV × Hp) := fun args H => match args with
  | [.c (.slc k _ _ _ n cap), .c (.slc k' _ _ _ n' cap')] => fN k fun k => fN k' fun k' => useP [k, k'] 2 [.c (slK 0 7 n.v cap.v), .c (slK 1 7 n'.v cap'.v)] [(0, freshB n.v cap.v), (1, freshB n'.v cap'.v)] (.need (n.v ≤ 1000000) (.any Unit (fun _ => True) fun _ => .leaf (.c (.bv (decide (n.v = n'.v))), ⟨[(0, freshB n.v cap.v), (1, freshB n'.v cap'.v)], 2, fun _ => True⟩))) args H
  | _ => .bad 431
end
end Go.Proofs.Ytjpnpaboahbncaa.Vc


/- MachineEnvs: words and fresh records compared: the conditions, printed by program. -/
set_option linter.unusedVariables false
set_option maxRecDepth 100000
namespace Go.Proofs.Ytjpnpaboahbncaa.Vc
open Go Go.RowKit Sx Cn Dc Ck

theorem verEqW_eq (r s : R1) : verEqW r s =
  V.br ((↑r.n : Int) != (↑s.n : Int))
    (V.need True
    (V.need (false = r.eqB s) V.ok))
    (V.need (Int.ofNat 0 ≤ Int.ofNat 0 ∧ Int.ofNat 0 ≤ (↑r.n : Int) ∧ ∀ (e : Nat), (↑e : Int) < Int.ofNat 0 → r.f e = s.f e)
    (V.need (Int.ofNat 0 = Int.ofNat 0)
    (V.any Int (eq1I r s) fun (x : Int) => V.br (decide (x < (↑r.n : Int)))
    (V.need (Int.ofNat 0 ≤ x ∧ x < (↑r.n : Int))
    (V.need (0 < 1 ∧ 0 + x.toNat < r.n)
    (V.need (0 < 1 ∧ 0 + x.toNat < r.n)
    (V.need (Int.ofNat 0 ≤ x ∧ x < (↑s.n : Int))
    (V.need (0 < 1 ∧ 0 + x.toNat < s.n)
    (V.need (0 < 1 ∧ 0 + x.toNat < s.n)
    (V.br (r.f (0 + x.toNat) != s.f (0 + x.toNat))
    (V.need True
    (V.need (false = r.eqB s) V.ok))
    (V.need (Int.ofNat 0 ≤ IntKind.i64.wrap (x + Int.ofNat 1) ∧ IntKind.i64.wrap (x + Int.ofNat 1) ≤ (↑r.n : Int) ∧ ∀ (e : Nat), (↑e : Int) < IntKind.i64.wrap (x + Int.ofNat 1) → r.f e = s.f e)
    (V.need (r.n - (IntKind.i64.wrap (x + Int.ofNat 1)).toNat < r.n - x.toNat)
    (V.need (IntKind.i64.wrap (x + Int.ofNat 1) = IntKind.i64.wrap (x + Int.ofNat 1)) V.ok))))))))))
    (V.need True
    (V.need (true = r.eqB s) V.ok))))) := by kernel_rfl

theorem verFresh_eq (n c m d : Nat) : verFresh n c m d =
  V.br ((↑n : Int) != (↑m : Int))
    (V.need True
    (V.need (false = decide (n = m))
    (V.need (c = c)
    (V.need (n ≤ n)
    (V.need (∀ (e : Nat), e < n → Int.ofNat 0 = Int.ofNat 0)
    (V.need (∀ (e : Nat), e < n → -Int.ofNat 1 = -Int.ofNat 1)
    (V.need (∀ (e : Nat), e < n → Int.ofNat 0 = Int.ofNat 0)
    (V.need (∀ (e : Nat), e < n → Int.ofNat 0 = Int.ofNat 0)
    (V.need (∀ (e : Nat), e < n → -Int.ofNat 1 = -Int.ofNat 1)
    (V.need (∀ (e : Nat), e < n → false = false)
    (V.need (d = d)
    (V.need (m ≤ m)
    (V.need (∀ (e : Nat), e < m → Int.ofNat 0 = Int.ofNat 0)
    (V.need (∀ (e : Nat), e < m → -Int.ofNat 1 = -Int.ofNat 1)
    (V.need (∀ (e : Nat), e < m → Int.ofNat 0 = Int.ofNat 0)
    (V.need (∀ (e : Nat), e < m → Int.ofNat 0 = Int.ofNat 0)
    (V.need (∀ (e : Nat), e < m → -Int.ofNat 1 = -Int.ofNat 1)
    (V.need (∀ (e : Nat), e < m → false = false) V.ok))))))))))))))))))
    (V.need (Int.ofNat 0 ≤ Int.ofNat 0 ∧ Int.ofNat 0 ≤ (↑n : Int))
    (V.need (Int.ofNat 0 = Int.ofNat 0)
    (V.any Int (fun (x : Int) => Int.ofNat 0 ≤ x ∧ x ≤ (↑n : Int)) fun (x : Int) => V.br (decide (x < (↑n : Int)))
    (V.need (Int.ofNat 0 ≤ x ∧ x < (↑n : Int))
    (V.need (0 < 1 ∧ 0 + x.toNat < n)
    (V.need (0 < 1 ∧ 0 + x.toNat < n)
    (V.need (0 < 1 ∧ 0 + x.toNat < n)
    (V.need (0 < 1 ∧ 0 + x.toNat < n)
    (V.need (0 < 1 ∧ 0 + x.toNat < n)
    (V.need (0 < 1 ∧ 0 + x.toNat < n)
    (V.need (0 < 1 ∧ 0 + x.toNat < n)
    (V.need (0 < 1 ∧ 0 + x.toNat < n)
    (V.need (Int.ofNat 0 ≤ x ∧ x < (↑m : Int))
    (V.need (0 < 1 ∧ 0 + x.toNat < m)
    (V.need (0 < 1 ∧ 0 + x.toNat < m)
    (V.need (0 < 1 ∧ 0 + x.toNat < m)
    (V.need (0 < 1 ∧ 0 + x.toNat < m)
    (V.need (0 < 1 ∧ 0 + x.toNat < m)
    (V.need (0 < 1 ∧ 0 + x.toNat < m)
    (V.need (0 < 1 ∧ 0 + x.toNat < m)
    (V.need (0 < 1 ∧ 0 + x.toNat < m)
    (V.br false
    (V.need True
    (V.need (false = decide (n = m))
    (V.need (c = c)
    (V.need (n ≤ n)
    (V.need (∀ (e : Nat), e < n → Int.ofNat 0 = Int.ofNat 0)
    (V.need (∀ (e : Nat), e < n → -Int.ofNat 1 = -Int.ofNat 1)
    (V.need (∀ (e : Nat), e < n → Int.ofNat 0 = Int.ofNat 0)
    (V.need (∀ (e : Nat), e < n → Int.ofNat 0 = Int.ofNat 0)
    (V.need (∀ (e : Nat), e < n → -Int.ofNat 1 = -Int.ofNat 1)
    (V.need (∀ (e : Nat), e < n → false = false)
    (V.need (d = d)
    (V.need (m ≤ m)
    (V.need (∀ (e : Nat), e < m → Int.ofNat 0 = Int.ofNat 0)
    (V.need (∀ (e : Nat), e < m → -Int.ofNat 1 = -Int.ofNat 1)
    (V.need (∀ (e : Nat), e < m → Int.ofNat 0 = Int.ofNat 0)
    (V.need (∀ (e : Nat), e < m → Int.ofNat 0 = Int.ofNat 0)
    (V.need (∀ (e : Nat), e < m → -Int.ofNat 1 = -Int.ofNat 1)
    (V.need (∀ (e : Nat), e < m → false = false) V.ok))))))))))))))))))
    (V.br false
    (V.need True
    (V.need (false = decide (n = m))
    (V.need (c = c)
    (V.need (n ≤ n)
    (V.need (∀ (e : Nat), e < n → Int.ofNat 0 = Int.ofNat 0)
    (V.need (∀ (e : Nat), e < n → -Int.ofNat 1 = -Int.ofNat 1)
    (V.need (∀ (e : Nat), e < n → Int.ofNat 0 = Int.ofNat 0)
    (V.need (∀ (e : Nat), e < n → Int.ofNat 0 = Int.ofNat 0)
    (V.need (∀ (e : Nat), e < n → -Int.ofNat 1 = -Int.ofNat 1)
    (V.need (∀ (e : Nat), e < n → false = false)
    (V.need (d = d)
    (V.need (m ≤ m)
    (V.need (∀ (e : Nat), e < m → Int.ofNat 0 = Int.ofNat 0)
    (V.need (∀ (e : Nat), e < m → -Int.ofNat 1 = -Int.ofNat 1)
    (V.need (∀ (e : Nat), e < m → Int.ofNat 0 = Int.ofNat 0)
    (V.need (∀ (e : Nat), e < m → Int.ofNat 0 = Int.ofNat 0)
    (V.need (∀ (e : Nat), e < m → -Int.ofNat 1 = -Int.ofNat 1)
    (V.need (∀ (e : Nat), e < m → false = false) V.ok))))))))))))))))))
    (V.br false
    (V.need True
    (V.need (false = decide (n = m))
    (V.need (c = c)
    (V.need (n ≤ n)
    (V.need (∀ (e : Nat), e < n → Int.ofNat 0 = Int.ofNat 0)
    (V.need (∀ (e : Nat), e < n → -Int.ofNat 1 = -Int.ofNat 1)
    (V.need (∀ (e : Nat), e < n → Int.ofNat 0 = Int.ofNat 0)
    (V.need (∀ (e : Nat), e < n → Int.ofNat 0 = Int.ofNat 0)
    (V.need (∀ (e : Nat), e < n → -Int.ofNat 1 = -Int.ofNat 1)
    (V.need (∀ (e : Nat), e < n → false = false)
    (V.need (d = d)
    (V.need (m ≤ m)
    (V.need (∀ (e : Nat), e < m → Int.ofNat 0 = Int.ofNat 0)
    (V.need (∀ (e : Nat), e < m → -Int.ofNat 1 = -Int.ofNat 1)
    (V.need (∀ (e : Nat), e < m → Int.ofNat 0 = Int.ofNat 0)
    (V.need (∀ (e : Nat), e < m → Int.ofNat 0 = Int.ofNat 0)
    (V.need (∀ (e : Nat), e < m → -Int.ofNat 1 = -Int.ofNat 1)
    (V.need (∀ (e : Nat), e < m → false = false) V.ok))))))))))))))))))
    (V.br false
    (V.need True
    (V.need (false = decide (n = m))
    (V.need (c = c)
    (V.need (n ≤ n)
    (V.need (∀ (e : Nat), e < n → Int.ofNat 0 = Int.ofNat 0)
    (V.need (∀ (e : Nat), e < n → -Int.ofNat 1 = -Int.ofNat 1)
    (V.need (∀ (e : Nat), e < n → Int.ofNat 0 = Int.ofNat 0)
    (V.need (∀ (e : Nat), e < n → Int.ofNat 0 = Int.ofNat 0)
    (V.need (∀ (e : Nat), e < n → -Int.ofNat 1 = -Int.ofNat 1)
    (V.need (∀ (e : Nat), e < n → false = false)
    (V.need (d = d)
    (V.need (m ≤ m)
    (V.need (∀ (e : Nat), e < m → Int.ofNat 0 = Int.ofNat 0)
    (V.need (∀ (e : Nat), e < m → -Int.ofNat 1 = -Int.ofNat 1)
    (V.need (∀ (e : Nat), e < m → Int.ofNat 0 = Int.ofNat 0)
    (V.need (∀ (e : Nat), e < m → Int.ofNat 0 = Int.ofNat 0)
    (V.need (∀ (e : Nat), e < m → -Int.ofNat 1 = -Int.ofNat 1)
    (V.need (∀ (e : Nat), e < m → false = false) V.ok))))))))))))))))))
    (V.br false
    (V.need True
    (V.need (false = decide (n = m))
    (V.need (c = c)
    (V.need (n ≤ n)
    (V.need (∀ (e : Nat), e < n → Int.ofNat 0 = Int.ofNat 0)
    (V.need (∀ (e : Nat), e < n → -Int.ofNat 1 = -Int.ofNat 1)
    (V.need (∀ (e : Nat), e < n → Int.ofNat 0 = Int.ofNat 0)
    (V.need (∀ (e : Nat), e < n → Int.ofNat 0 = Int.ofNat 0)
    (V.need (∀ (e : Nat), e < n → -Int.ofNat 1 = -Int.ofNat 1)
    (V.need (∀ (e : Nat), e < n → false = false)
    (V.need (d = d)
    (V.need (m ≤ m)
    (V.need (∀ (e : Nat), e < m → Int.ofNat 0 = Int.ofNat 0)
    (V.need (∀ (e : Nat), e < m → -Int.ofNat 1 = -Int.ofNat 1)
    (V.need (∀ (e : Nat), e < m → Int.ofNat 0 = Int.ofNat 0)
    (V.need (∀ (e : Nat), e < m → Int.ofNat 0 = Int.ofNat 0)
    (V.need (∀ (e : Nat), e < m → -Int.ofNat 1 = -Int.ofNat 1)
    (V.need (∀ (e : Nat), e < m → false = false) V.ok))))))))))))))))))
    (V.br false
    (V.need True
    (V.need (false = decide (n = m))
    (V.need (c = c)
    (V.need (n ≤ n)
    (V.need (∀ (e : Nat), e < n → Int.ofNat 0 = Int.ofNat 0)
    (V.need (∀ (e : Nat), e < n → -Int.ofNat 1 = -Int.ofNat 1)
    (V.need (∀ (e : Nat), e < n → Int.ofNat 0 = Int.ofNat 0)
    (V.need (∀ (e : Nat), e < n → Int.ofNat 0 = Int.ofNat 0)
    (V.need (∀ (e : Nat), e < n → -Int.ofNat 1 = -Int.ofNat 1)
    (V.need (∀ (e : Nat), e < n → false = false)
    (V.need (d = d)
    (V.need (m ≤ m)
    (V.need (∀ (e : Nat), e < m → Int.ofNat 0 = Int.ofNat 0)
    (V.need (∀ (e : Nat), e < m → -Int.ofNat 1 = -Int.ofNat 1)
    (V.need (∀ (e : Nat), e < m → Int.ofNat 0 = Int.ofNat 0)
    (V.need (∀ (e : Nat), e < m → Int.ofNat 0 = Int.ofNat 0)
    (V.need (∀ (e : Nat), e < m → -Int.ofNat 1 = -Int.ofNat 1)
    (V.need (∀ (e : Nat), e < m → false = false) V.ok))))))))))))))))))
    (V.need (Int.ofNat 0 ≤ IntKind.i64.wrap (x + Int.ofNat 1) ∧ IntKind.i64.wrap (x + Int.ofNat 1) ≤ (↑n : Int))
    (V.need (n - (IntKind.i64.wrap (x + Int.ofNat 1)).toNat < n - x.toNat)
    (V.need (IntKind.i64.wrap (x + Int.ofNat 1) = IntKind.i64.wrap (x + Int.ofNat 1)) V.ok)))))))))))))))))))))))))))
    (V.need True
    (V.need (true = decide (n = m))
    (V.need (c = c)
    (V.need (n ≤ n)
    (V.need (∀ (e : Nat), e < n → Int.ofNat 0 = Int.ofNat 0)
    (V.need (∀ (e : Nat), e < n → -Int.ofNat 1 = -Int.ofNat 1)
    (V.need (∀ (e : Nat), e < n → Int.ofNat 0 = Int.ofNat 0)
    (V.need (∀ (e : Nat), e < n → Int.ofNat 0 = Int.ofNat 0)
    (V.need (∀ (e : Nat), e < n → -Int.ofNat 1 = -Int.ofNat 1)
    (V.need (∀ (e : Nat), e < n → false = false)
    (V.need (d = d)
    (V.need (m ≤ m)
    (V.need (∀ (e : Nat), e < m → Int.ofNat 0 = Int.ofNat 0)
    (V.need (∀ (e : Nat), e < m → -Int.ofNat 1 = -Int.ofNat 1)
    (V.need (∀ (e : Nat), e < m → Int.ofNat 0 = Int.ofNat 0)
    (V.need (∀ (e : Nat), e < m → Int.ofNat 0 = Int.ofNat 0)
    (V.need (∀ (e : Nat), e < m → -Int.ofNat 1 = -Int.ofNat 1)
    (V.need (∀ (e : Nat), e < m → false = false) V.ok))))))))))))))))))))) := by kernel_rfl


end Go.Proofs.Ytjpnpaboahbncaa.Vc


/- MachineEnvs: words and fresh records compared: the contracts. -/
set_option linter.unusedVariables false
set_option linter.unusedSimpArgs false
set_option maxRecDepth 100000
namespace Go.Proofs.Ytjpnpaboahbncaa.Vc
open Go Go.RowKit Sx Cn Dc Ck
theorem vhEqW {r s : R1} (hr : r.n ≤ 1000000) : VHolds (verEqW r s) := by
  constructor
  rw [verEqW_eq]
  simp only [V.holds, Int.ofNat_eq_natCast, decide_eq_true_eq, decide_eq_false_iff_not, Bool.not_eq_true', Bool.not_eq_false', bne_iff_ne, bne_eq_false_iff_eq, beq_iff_eq, beq_eq_false_iff_ne, ne_eq, true_and, and_true, forall_const, true_implies, implies_true, Nat.zero_add, Nat.sub_zero, Nat.lt_add_one, Nat.zero_lt_one, Int.natCast_zero, Int.natCast_one, Int.cast_ofNat_Int, gt_iff_lt, and_self, eq_self, Nat.le_refl, if_true, Bool.and_true, Bool.and_eq_true, Bool.and_eq_false_imp]
  repeat' first | exact True.intro | with_reducible apply And.intro | intro _
  all_goals try (have h0 := n1_pos (by assumption))
  all_goals first
    | omega
    | (rw [w1 hr h0 (by assumption)]; omega)
    | exact n1_len (by assumption)
    | exact n1_at (by assumption) (by assumption) (by assumption)
    | exact n1_end (by assumption) (by assumption) (by assumption)
    | exact n1_next hr (by assumption) (by assumption) (by assumption) _ (by assumption)
theorem conEqW_ok : ContractOK P 105 conEqW := contract_of_useP fun args H => by
  unfold conEqW
  simp only [fN_eq]
  repeat' split
  all_goals first
    | exact .inl ⟨_, rfl⟩
    | exact .inr ⟨_, _, _, _, _, rfl, local_of_ver0 ConOK.nil fun h => vhEqW h⟩
theorem vhFresh {n c m d : Nat} (hr : n ≤ 1000000) : VHolds (verFresh n c m d) := by
  constructor
  rw [verFresh_eq]
  simp only [V.holds, Int.ofNat_eq_natCast, decide_eq_true_eq, decide_eq_false_iff_not, Bool.not_eq_true', Bool.not_eq_false', bne_iff_ne, bne_eq_false_iff_eq, beq_iff_eq, beq_eq_false_iff_ne, ne_eq, true_and, and_true, forall_const, true_implies, implies_true, Nat.zero_add, Nat.sub_zero, Nat.lt_add_one, Nat.zero_lt_one, Int.natCast_zero, Int.natCast_one, Int.cast_ofNat_Int, gt_iff_lt, and_self, eq_self, Nat.le_refl, if_true, Bool.false_eq_true, false_implies, not_true_eq_false]
  repeat' first | exact True.intro | with_reducible apply And.intro | intro _
  all_goals first
    | contradiction
    | omega
    | exact (decide_eq_false (by omega)).symm
    | exact (decide_eq_true (by omega)).symm
    | (rw [w64 (by omega)]; omega)
theorem conFresh_ok : ContractOK P 130 conFresh := contract_of_useP fun args H => by
  unfold conFresh
  simp only [fN_eq]
  repeat' split
  all_goals first
    | exact .inl ⟨_, rfl⟩
    | exact .inr ⟨_, _, _, _, _, rfl, local_of_ver ConOK.nil fun h => vhFresh h⟩
end Go.Proofs.Ytjpnpaboahbncaa.Vc


/- machine.New and the reference's New: what is asked. -/
set_option linter.unusedVariables false
set_option linter.unusedSimpArgs false
set_option maxRecDepth 100000
namespace Go.Proofs.Ytjpnpaboahbncaa.Vc
open Go Go.RowKit Sx Cn Dc Ck
/-- The number of cells. -/
def ncI (c : Cf) : Int := lT c + 5 * c.T
def ncN (c : Cf) : Nat := (ncI c).toNat
noncomputable section
def cfL (k0 k1 : Nat) (c : Cf) : List SC := [.iv .i64 c.W, .iv .i64 c.L, .iv .i64 c.C, .iv .i64 c.T, .iv .i64 c.D, .iv .i64 c.H, .iv .i64 c.B, .iv .i64 c.A, .iv .i64 c.P, slK k0 1 c.nP c.rc, slK k1 3 c.nU c.cu]
def layL (c : Cf) : List SC := [.iv .i64 c.W, .iv .i64 c.L, .iv .i64 c.C, .iv .i64 c.T, .iv .i64 c.D, .iv .i64 c.H, .iv .i64 (lS c), .iv .i64 (lE c), .iv .i64 (lB c), .iv .i64 (lQ c), .iv .i64 (lT c)]
/-- An environment: its configuration's slices, memory, clock, records by names. -/
def envB (k0 k1 km kc kr : Nat) (c : Cf) (rn rc : Nat) : Blk := .own 37 26 ((cfL k0 k1 c ++ layL c ++ [.ptr km (.k 0) (.k 0) 0 6, .ptr kc (.k 0) (.k 0) 0 2, slK kr 7 rn rc, .nils]).map some)
def memB (k : Nat) (n cap : Nat) (a0 a1 a2 a3 cnt : Int) : Blk := .own 110 6 ([slK k 1 n cap, .iv .i64 a0, .iv .i64 a1, .iv .u64 a2, .iv .u64 a3, .iv .i64 cnt].map some)
def zeroB (n : Nat) : Blk := .row 44 n n [.ci .u64 fun _ _ => 0]
def clkB (now dr : Int) : Blk := .own 161 2 [some (.iv .i64 now), some (.iv .i64 dr)]
def e24 (s : St) : Nat := cellKey (tkey 6 s) 24 s.H.h
def fNew (n : Int) (s : St) : Option (LA (Int × Nat)) := match find (tkey 6 s) s.H.h with
  | some (.own t size cs) => some ⟨[(tkey 6, true), (e24, false)], fun x => [.own t size (cs.set 24 (some (slK (e24 s) 7 x.1.toNat x.2))), freshB x.1.toNat x.2], [29], fun x => [iv x.1],
    fun s => match intT 29 s, capOf (e24 s) s.H.h with | some i, some c => some (i, c) | _, _ => none, fun x => 0 ≤ x.1 ∧ x.1 ≤ n ∧ x.1.toNat ≤ x.2, fun x => (n - x.1).toNat⟩
  | _ => none
def selP : SV → Hp → Bool := fun s _ => match s with
  | .t [.c .nilp, _] => false
  | _ => true
/-- The names of a new environment: itself, memory, cells, clock, records, its configuration. -/
def keyF (f : Nat) (k : Nat) (H : HL) : Nat := cellKey k f H
def keysE (k : Nat) (H : HL) : List Nat := [k, keyF 22 k H, keyF 0 (keyF 22 k H) H, keyF 23 k H, keyF 24 k H] ++ (match find k H with
  | some (.own _ _ cs) => match (cs[9]? : Option (Option SC)), (cs[10]? : Option (Option SC)) with
    | some (some a), some (some b) => [Sx.keyOf a, Sx.keyOf b, match find (Sx.keyOf a) H with | some (.row _ _ _ [.cs kF _ _ _ _]) => kF | _ => 0]
    | _, _ => []
  | _ => [])
def cfE (k : Nat) (H : HL) : Option Cf := match find k H with
  | some (.own _ _ cs) => match cs.take 11 with
    | [some a, some b, some c, some d, some e, some f, some g, some h, some i, some p, some q] => (rdCf (.a [a, b, c, d, e, f, g, h, i, p, q]) H).map (·.1)
    | _ => none
  | _ => none
def tupK (s : SV) : Nat := match s with | .t (.c x :: _) => Sx.keyOf x | .c x => Sx.keyOf x | _ => 0
def hNew (d : Cf) (rn rc : Nat) : HL := [(3, envB 8 9 4 6 7 d rn rc), (4, memB 5 (ncN d) (ncN d) 0 0 0 0 0), (5, zeroB (ncN d)), (6, clkB 0 0), (7, freshB rn rc)] ++ hOwn 8 d
def psNewM (c : Cf) : PS := .br (decide (errE c = 0)) selP
  (.leaf (Cf × Nat) 11 (fun s H => match cfE (tupK s) H.h, capOf (keyF 24 (tupK s) H.h) H.h with | some d, some x => some (d, x) | _, _ => none) (fun s H => keysE (tupK s) H.h) (fun x => IsCl c x.1 ∧ c.T.toNat ≤ x.2)
    (fun _ => .t [.c (.ptr 3 (.k 0) (.k 0) 0 26), .c (.iv .i64 0)]) (fun x => hNew x.1 c.T.toNat x.2))
  (.one 3 (fun _ _ => []) (.t [.c .nilp, .c (.iv .i64 (errE c))]) [])
def conNM : Con := Con.add 34 conNew (Con.add 66 conClone con0)
theorem conNM_ok : ConOK P conNM := .add conNew_ok (.add conClone_ok ConOK.nil)
def verNewM (c : Cf) : V := verF P conNM 3 6 61 [] (.loop _ [.nilCell (tkey 6) 24 116 7 fun _ => freshC] (fNew c.T) .nil .nil) [argC c] ⟨hC c, 3, fun _ => True⟩ ((psNewM c).fin 3)
/-- The reference's environment. -/
def renvB (k0 k1 km kr : Nat) (c : Cf) (n cap rn rc : Nat) : Blk := .own 143 21 ((cfL k0 k1 c ++ [slK km 1 n cap, .iv .i64 0, .iv .i64 0, .iv .u64 0, .iv .u64 0, .iv .i64 0, .iv .i64 0, .iv .i64 0, slK kr 7 rn rc, .nils]).map some)
def r19 (s : St) : Nat := cellKey (tkey 3 s) 19 s.H.h
def fNewR (n : Int) (s : St) : Option (LA (Int × Nat)) := match find (tkey 3 s) s.H.h with
  | some (.own t size cs) => some ⟨[(tkey 3, true), (r19, false)], fun x => [.own t size (cs.set 19 (some (slK (r19 s) 7 x.1.toNat x.2))), freshB x.1.toNat x.2], [4], fun x => [iv x.1],
    fun s => match intT 4 s, capOf (r19 s) s.H.h with | some i, some c => some (i, c) | _, _ => none, fun x => 0 ≤ x.1 ∧ x.1 ≤ n ∧ x.1.toNat ≤ x.2, fun x => (n - x.1).toNat⟩
  | _ => none
def psNewR (c : Cf) : PS := .leaf Nat 6 (fun s H => capOf (keyF 19 (tupK s) H.h) H.h) (fun s H => [tupK s, keyF 11 (tupK s) H.h, keyF 19 (tupK s) H.h]) (fun x => c.T.toNat ≤ x) (fun _ => .c (.ptr 3 (.k 0) (.k 0) 0 21))
  (fun x => [(3, renvB 0 1 4 5 c (ncN c) (ncN c) c.T.toNat x), (4, zeroB (ncN c)), (5, freshB c.T.toNat x)])
def verNewR (c : Cf) : V := verF P con0 3 6 63 [] (.loop _ [.nilCell (tkey 3) 19 116 7 fun _ => freshC] (fNewR c.T) .nil .nil) [argC c] ⟨hC c, 3, fun _ => True⟩ ((psNewR c).fin 3)
end
end Go.Proofs.Ytjpnpaboahbncaa.Vc


/- MachineEnvs: the environments made: the conditions, printed by program. -/
set_option linter.unusedVariables false
set_option maxRecDepth 100000
namespace Go.Proofs.Ytjpnpaboahbncaa.Vc
open Go Go.RowKit Sx Cn Dc Ck

set_option maxHeartbeats 8000000 in
theorem verNewM_eq (c : Cf) : verNewM c =
  V.need (c.W = c.W)
    (V.need (c.L = c.L)
    (V.need (c.C = c.C)
    (V.need (c.T = c.T)
    (V.need (c.D = c.D)
    (V.need (c.H = c.H)
    (V.need (c.B = c.B)
    (V.need (c.A = c.A)
    (V.need (c.P = c.P)
    (V.need (c.nP = c.nP)
    (V.need (c.rc = c.rc)
    (V.need (c.nU = c.nU)
    (V.need (c.cu = c.cu)
    (V.need (1 ≤ 1)
    (V.need (∀ (i : Nat), i < 1 → c.nP ≤ c.nP)
    (V.need (∀ (i e : Nat), i < 1 ∧ e < c.nP → e = e)
    (V.need (∀ (i e : Nat), i < 1 ∧ e < c.nP → c.lenP e = c.lenP e)
    (V.need (∀ (i e : Nat), i < 1 ∧ e < c.nP → c.FC e = c.FC e)
    (V.need (1 ≤ 1)
    (V.need (∀ (i : Nat), i < 1 → c.nU ≤ c.nU)
    (V.need (∀ (i e : Nat), i < 1 ∧ e < c.nU → c.uP e = c.uP e)
    (V.need (∀ (i e : Nat), i < 1 ∧ e < c.nU → c.uL e = c.uL e)
    (V.need (∀ (i e : Nat), i < 1 ∧ e < c.nU → c.uD e = c.uD e)
    (V.need (c.nP ≤ c.nP)
    (V.need (∀ (i : Nat), i < c.nP → c.lenP i ≤ c.lenP i)
    (V.need (∀ (i e : Nat), i < c.nP ∧ e < c.lenP i → c.iO i e = c.iO i e)
    (V.need (∀ (i e : Nat), i < c.nP ∧ e < c.lenP i → c.iA i e = c.iA i e)
    (V.need (∀ (i e : Nat), i < c.nP ∧ e < c.lenP i → c.iB i e = c.iB i e)
    (V.need True
    (V.br (errE (Cf.mk c.W c.L c.C c.T c.D c.H c.B c.A c.P c.nP c.rc c.nU c.cu (fun (e : Nat) => c.lenP e) (fun (e : Nat) => c.FC e) (fun (i e : Nat) => c.iO i e) (fun (i e : Nat) => c.iA i e) (fun (i e : Nat) => c.iB i e) (fun (e : Nat) => c.uP e) (fun (e : Nat) => c.uL e) fun (e : Nat) => c.uD e) != Int.ofNat 0)
    (V.need (decide (errE c = Int.ofNat 0) = false)
    (V.need True
    (V.need (errE (Cf.mk c.W c.L c.C c.T c.D c.H c.B c.A c.P c.nP c.rc c.nU c.cu (fun (e : Nat) => c.lenP e) (fun (e : Nat) => c.FC e) (fun (i e : Nat) => c.iO i e) (fun (i e : Nat) => c.iA i e) (fun (i e : Nat) => c.iB i e) (fun (e : Nat) => c.uP e) (fun (e : Nat) => c.uL e) fun (e : Nat) => c.uD e) = errE c) V.ok)))
    (V.need (Int.ofNat 0 ≤ min (max (IntKind.i64.wrap (layN (Cf.mk c.W c.L c.C c.T c.D c.H c.B c.A c.P c.nP c.rc c.nU c.cu (fun (e : Nat) => c.lenP e) (fun (e : Nat) => c.FC e) (fun (i e : Nat) => c.iO i e) (fun (i e : Nat) => c.iA i e) (fun (i e : Nat) => c.iB i e) (fun (e : Nat) => c.uP e) (fun (e : Nat) => c.uL e) fun (e : Nat) => c.uD e) (lT (Cf.mk c.W c.L c.C c.T c.D c.H c.B c.A c.P c.nP c.rc c.nU c.cu (fun (e : Nat) => c.lenP e) (fun (e : Nat) => c.FC e) (fun (i e : Nat) => c.iO i e) (fun (i e : Nat) => c.iA i e) (fun (i e : Nat) => c.iB i e) (fun (e : Nat) => c.uP e) (fun (e : Nat) => c.uL e) fun (e : Nat) => c.uD e)) + IntKind.i64.wrap (Int.ofNat 5 * layN (Cf.mk c.W c.L c.C c.T c.D c.H c.B c.A c.P c.nP c.rc c.nU c.cu (fun (e : Nat) => c.lenP e) (fun (e : Nat) => c.FC e) (fun (i e : Nat) => c.iO i e) (fun (i e : Nat) => c.iA i e) (fun (i e : Nat) => c.iB i e) (fun (e : Nat) => c.uP e) (fun (e : Nat) => c.uL e) fun (e : Nat) => c.uD e) c.T))) (Int.ofNat 0)) (Int.ofNat 131072) ∧ min (max (IntKind.i64.wrap (layN (Cf.mk c.W c.L c.C c.T c.D c.H c.B c.A c.P c.nP c.rc c.nU c.cu (fun (e : Nat) => c.lenP e) (fun (e : Nat) => c.FC e) (fun (i e : Nat) => c.iO i e) (fun (i e : Nat) => c.iA i e) (fun (i e : Nat) => c.iB i e) (fun (e : Nat) => c.uP e) (fun (e : Nat) => c.uL e) fun (e : Nat) => c.uD e) (lT (Cf.mk c.W c.L c.C c.T c.D c.H c.B c.A c.P c.nP c.rc c.nU c.cu (fun (e : Nat) => c.lenP e) (fun (e : Nat) => c.FC e) (fun (i e : Nat) => c.iO i e) (fun (i e : Nat) => c.iA i e) (fun (i e : Nat) => c.iB i e) (fun (e : Nat) => c.uP e) (fun (e : Nat) => c.uL e) fun (e : Nat) => c.uD e)) + IntKind.i64.wrap (Int.ofNat 5 * layN (Cf.mk c.W c.L c.C c.T c.D c.H c.B c.A c.P c.nP c.rc c.nU c.cu (fun (e : Nat) => c.lenP e) (fun (e : Nat) => c.FC e) (fun (i e : Nat) => c.iO i e) (fun (i e : Nat) => c.iA i e) (fun (i e : Nat) => c.iB i e) (fun (e : Nat) => c.uP e) (fun (e : Nat) => c.uL e) fun (e : Nat) => c.uD e) c.T))) (Int.ofNat 0)) (Int.ofNat 131072) ≤ min (max (IntKind.i64.wrap (layN (Cf.mk c.W c.L c.C c.T c.D c.H c.B c.A c.P c.nP c.rc c.nU c.cu (fun (e : Nat) => c.lenP e) (fun (e : Nat) => c.FC e) (fun (i e : Nat) => c.iO i e) (fun (i e : Nat) => c.iA i e) (fun (i e : Nat) => c.iB i e) (fun (e : Nat) => c.uP e) (fun (e : Nat) => c.uL e) fun (e : Nat) => c.uD e) (lT (Cf.mk c.W c.L c.C c.T c.D c.H c.B c.A c.P c.nP c.rc c.nU c.cu (fun (e : Nat) => c.lenP e) (fun (e : Nat) => c.FC e) (fun (i e : Nat) => c.iO i e) (fun (i e : Nat) => c.iA i e) (fun (i e : Nat) => c.iB i e) (fun (e : Nat) => c.uP e) (fun (e : Nat) => c.uL e) fun (e : Nat) => c.uD e)) + IntKind.i64.wrap (Int.ofNat 5 * layN (Cf.mk c.W c.L c.C c.T c.D c.H c.B c.A c.P c.nP c.rc c.nU c.cu (fun (e : Nat) => c.lenP e) (fun (e : Nat) => c.FC e) (fun (i e : Nat) => c.iO i e) (fun (i e : Nat) => c.iA i e) (fun (i e : Nat) => c.iB i e) (fun (e : Nat) => c.uP e) (fun (e : Nat) => c.uL e) fun (e : Nat) => c.uD e) c.T))) (Int.ofNat 0)) (Int.ofNat 131072) ∧ (↑8 : Int) * min (max (IntKind.i64.wrap (layN (Cf.mk c.W c.L c.C c.T c.D c.H c.B c.A c.P c.nP c.rc c.nU c.cu (fun (e : Nat) => c.lenP e) (fun (e : Nat) => c.FC e) (fun (i e : Nat) => c.iO i e) (fun (i e : Nat) => c.iA i e) (fun (i e : Nat) => c.iB i e) (fun (e : Nat) => c.uP e) (fun (e : Nat) => c.uL e) fun (e : Nat) => c.uD e) (lT (Cf.mk c.W c.L c.C c.T c.D c.H c.B c.A c.P c.nP c.rc c.nU c.cu (fun (e : Nat) => c.lenP e) (fun (e : Nat) => c.FC e) (fun (i e : Nat) => c.iO i e) (fun (i e : Nat) => c.iA i e) (fun (i e : Nat) => c.iB i e) (fun (e : Nat) => c.uP e) (fun (e : Nat) => c.uL e) fun (e : Nat) => c.uD e)) + IntKind.i64.wrap (Int.ofNat 5 * layN (Cf.mk c.W c.L c.C c.T c.D c.H c.B c.A c.P c.nP c.rc c.nU c.cu (fun (e : Nat) => c.lenP e) (fun (e : Nat) => c.FC e) (fun (i e : Nat) => c.iO i e) (fun (i e : Nat) => c.iA i e) (fun (i e : Nat) => c.iB i e) (fun (e : Nat) => c.uP e) (fun (e : Nat) => c.uL e) fun (e : Nat) => c.uD e) c.T))) (Int.ofNat 0)) (Int.ofNat 131072) ≤ Int.ofNat 281474976710656 ∧ min (max (IntKind.i64.wrap (layN (Cf.mk c.W c.L c.C c.T c.D c.H c.B c.A c.P c.nP c.rc c.nU c.cu (fun (e : Nat) => c.lenP e) (fun (e : Nat) => c.FC e) (fun (i e : Nat) => c.iO i e) (fun (i e : Nat) => c.iA i e) (fun (i e : Nat) => c.iB i e) (fun (e : Nat) => c.uP e) (fun (e : Nat) => c.uL e) fun (e : Nat) => c.uD e) (lT (Cf.mk c.W c.L c.C c.T c.D c.H c.B c.A c.P c.nP c.rc c.nU c.cu (fun (e : Nat) => c.lenP e) (fun (e : Nat) => c.FC e) (fun (i e : Nat) => c.iO i e) (fun (i e : Nat) => c.iA i e) (fun (i e : Nat) => c.iB i e) (fun (e : Nat) => c.uP e) (fun (e : Nat) => c.uL e) fun (e : Nat) => c.uD e)) + IntKind.i64.wrap (Int.ofNat 5 * layN (Cf.mk c.W c.L c.C c.T c.D c.H c.B c.A c.P c.nP c.rc c.nU c.cu (fun (e : Nat) => c.lenP e) (fun (e : Nat) => c.FC e) (fun (i e : Nat) => c.iO i e) (fun (i e : Nat) => c.iA i e) (fun (i e : Nat) => c.iB i e) (fun (e : Nat) => c.uP e) (fun (e : Nat) => c.uL e) fun (e : Nat) => c.uD e) c.T))) (Int.ofNat 0)) (Int.ofNat 131072) ≤ Int.ofNat 9223372036854775807)
    (V.need (0 < 1 ∧ 0 < 1)
    (V.need (0 < 1 ∧ 0 < 1)
    (V.need (0 < 1 ∧ 0 < 1)
    (V.need (0 < 1 ∧ 0 < 1)
    (V.need (0 < 1 ∧ 0 < 1)
    (V.need (0 < 1 ∧ 0 < 1)
    (V.need (0 < 1 ∧ 0 < 1)
    (V.need (0 < 1 ∧ 0 < 1)
    (V.need (0 < 1 ∧ 0 < 1)
    (V.need (0 < 1 ∧ 0 < 1)
    (V.need (0 < 1 ∧ 0 < 1)
    (V.need (c.W = c.W)
    (V.need (c.L = c.L)
    (V.need (c.C = c.C)
    (V.need (c.T = c.T)
    (V.need (c.D = c.D)
    (V.need (c.H = c.H)
    (V.need (c.B = c.B)
    (V.need (c.A = c.A)
    (V.need (c.P = c.P)
    (V.need (c.nP = c.nP)
    (V.need (c.rc = c.rc)
    (V.need (c.nU = c.nU)
    (V.need (c.cu = c.cu)
    (V.need (1 ≤ 1)
    (V.need (∀ (i : Nat), i < 1 → c.nP ≤ c.nP)
    (V.need (∀ (i e : Nat), i < 1 ∧ e < c.nP → e = e)
    (V.need (∀ (i e : Nat), i < 1 ∧ e < c.nP → c.lenP e = c.lenP e)
    (V.need (∀ (i e : Nat), i < 1 ∧ e < c.nP → c.FC e = c.FC e)
    (V.need (1 ≤ 1)
    (V.need (∀ (i : Nat), i < 1 → c.nU ≤ c.nU)
    (V.need (∀ (i e : Nat), i < 1 ∧ e < c.nU → c.uP e = c.uP e)
    (V.need (∀ (i e : Nat), i < 1 ∧ e < c.nU → c.uL e = c.uL e)
    (V.need (∀ (i e : Nat), i < 1 ∧ e < c.nU → c.uD e = c.uD e)
    (V.need (c.nP ≤ c.nP)
    (V.need (∀ (i : Nat), i < c.nP → c.lenP i ≤ c.lenP i)
    (V.need (∀ (i e : Nat), i < c.nP ∧ e < c.lenP i → c.iO i e = c.iO i e)
    (V.need (∀ (i e : Nat), i < c.nP ∧ e < c.lenP i → c.iA i e = c.iA i e)
    (V.need (∀ (i e : Nat), i < c.nP ∧ e < c.lenP i → c.iB i e = c.iB i e)
    (V.need (preE (Cf.mk c.W c.L c.C c.T c.D c.H c.B c.A c.P c.nP c.rc c.nU c.cu (fun (e : Nat) => c.lenP e) (fun (e : Nat) => c.FC e) (fun (i e : Nat) => c.iO i e) (fun (i e : Nat) => c.iA i e) (fun (i e : Nat) => c.iB i e) (fun (e : Nat) => c.uP e) (fun (e : Nat) => c.uL e) fun (e : Nat) => c.uD e))
    (V.need (∃ (x : Cf), IsCl (Cf.mk c.W c.L c.C c.T c.D c.H c.B c.A c.P c.nP c.rc c.nU c.cu (fun (e : Nat) => c.lenP e) (fun (e : Nat) => c.FC e) (fun (i e : Nat) => c.iO i e) (fun (i e : Nat) => c.iA i e) (fun (i e : Nat) => c.iB i e) (fun (e : Nat) => c.uP e) (fun (e : Nat) => c.uL e) fun (e : Nat) => c.uD e) x)
    (V.any Cf (IsCl (Cf.mk c.W c.L c.C c.T c.D c.H c.B c.A c.P c.nP c.rc c.nU c.cu (fun (e : Nat) => c.lenP e) (fun (e : Nat) => c.FC e) (fun (i e : Nat) => c.iO i e) (fun (i e : Nat) => c.iA i e) (fun (i e : Nat) => c.iB i e) (fun (e : Nat) => c.uP e) (fun (e : Nat) => c.uL e) fun (e : Nat) => c.uD e)) fun (x : Cf) => V.need (0 < 1 ∧ 0 < 1)
    (V.need (0 < 1 ∧ 0 < 1)
    (V.need (0 < 1 ∧ 0 < 1)
    (V.need (0 < 1 ∧ 0 < 1)
    (V.need (0 < 1 ∧ 0 < 1)
    (V.need (0 < 1 ∧ 0 < 1)
    (V.need (0 < 1 ∧ 0 < 1)
    (V.need (0 < 1 ∧ 0 < 1)
    (V.need (0 < 1 ∧ 0 < 1)
    (V.need (0 < 1 ∧ 0 < 1)
    (V.need (0 < 1 ∧ 0 < 1)
    (V.need (0 < 1 ∧ 0 < 1)
    (V.need (0 < 1 ∧ 0 < 1)
    (V.need (0 < 1 ∧ 0 < 1)
    (V.need (0 < 1 ∧ 0 < 1)
    (V.need (Int.ofNat 0 ≤ Int.ofNat 0 ∧ Int.ofNat 0 ≤ c.T ∧ 0 ≤ 0)
    (V.need (Int.ofNat 0 = Int.ofNat 0)
    (V.need (x.W = x.W)
    (V.need (x.L = x.L)
    (V.need (x.C = x.C)
    (V.need (x.T = x.T)
    (V.need (x.D = x.D)
    (V.need (x.H = x.H)
    (V.need (x.B = x.B)
    (V.need (x.A = x.A)
    (V.need (x.P = x.P)
    (V.need (x.nP = x.nP)
    (V.need (x.rc = x.rc)
    (V.need (x.nU = x.nU)
    (V.need (x.cu = x.cu)
    (V.need (layN (Cf.mk c.W c.L c.C c.T c.D c.H c.B c.A c.P c.nP c.rc c.nU c.cu (fun (e : Nat) => c.lenP e) (fun (e : Nat) => c.FC e) (fun (i e : Nat) => c.iO i e) (fun (i e : Nat) => c.iA i e) (fun (i e : Nat) => c.iB i e) (fun (e : Nat) => c.uP e) (fun (e : Nat) => c.uL e) fun (e : Nat) => c.uD e) c.W = layN (Cf.mk c.W c.L c.C c.T c.D c.H c.B c.A c.P c.nP c.rc c.nU c.cu (fun (e : Nat) => c.lenP e) (fun (e : Nat) => c.FC e) (fun (i e : Nat) => c.iO i e) (fun (i e : Nat) => c.iA i e) (fun (i e : Nat) => c.iB i e) (fun (e : Nat) => c.uP e) (fun (e : Nat) => c.uL e) fun (e : Nat) => c.uD e) c.W)
    (V.need (layN (Cf.mk c.W c.L c.C c.T c.D c.H c.B c.A c.P c.nP c.rc c.nU c.cu (fun (e : Nat) => c.lenP e) (fun (e : Nat) => c.FC e) (fun (i e : Nat) => c.iO i e) (fun (i e : Nat) => c.iA i e) (fun (i e : Nat) => c.iB i e) (fun (e : Nat) => c.uP e) (fun (e : Nat) => c.uL e) fun (e : Nat) => c.uD e) c.L = layN (Cf.mk c.W c.L c.C c.T c.D c.H c.B c.A c.P c.nP c.rc c.nU c.cu (fun (e : Nat) => c.lenP e) (fun (e : Nat) => c.FC e) (fun (i e : Nat) => c.iO i e) (fun (i e : Nat) => c.iA i e) (fun (i e : Nat) => c.iB i e) (fun (e : Nat) => c.uP e) (fun (e : Nat) => c.uL e) fun (e : Nat) => c.uD e) c.L)
    (V.need (layN (Cf.mk c.W c.L c.C c.T c.D c.H c.B c.A c.P c.nP c.rc c.nU c.cu (fun (e : Nat) => c.lenP e) (fun (e : Nat) => c.FC e) (fun (i e : Nat) => c.iO i e) (fun (i e : Nat) => c.iA i e) (fun (i e : Nat) => c.iB i e) (fun (e : Nat) => c.uP e) (fun (e : Nat) => c.uL e) fun (e : Nat) => c.uD e) c.C = layN (Cf.mk c.W c.L c.C c.T c.D c.H c.B c.A c.P c.nP c.rc c.nU c.cu (fun (e : Nat) => c.lenP e) (fun (e : Nat) => c.FC e) (fun (i e : Nat) => c.iO i e) (fun (i e : Nat) => c.iA i e) (fun (i e : Nat) => c.iB i e) (fun (e : Nat) => c.uP e) (fun (e : Nat) => c.uL e) fun (e : Nat) => c.uD e) c.C)
    (V.need (layN (Cf.mk c.W c.L c.C c.T c.D c.H c.B c.A c.P c.nP c.rc c.nU c.cu (fun (e : Nat) => c.lenP e) (fun (e : Nat) => c.FC e) (fun (i e : Nat) => c.iO i e) (fun (i e : Nat) => c.iA i e) (fun (i e : Nat) => c.iB i e) (fun (e : Nat) => c.uP e) (fun (e : Nat) => c.uL e) fun (e : Nat) => c.uD e) c.T = layN (Cf.mk c.W c.L c.C c.T c.D c.H c.B c.A c.P c.nP c.rc c.nU c.cu (fun (e : Nat) => c.lenP e) (fun (e : Nat) => c.FC e) (fun (i e : Nat) => c.iO i e) (fun (i e : Nat) => c.iA i e) (fun (i e : Nat) => c.iB i e) (fun (e : Nat) => c.uP e) (fun (e : Nat) => c.uL e) fun (e : Nat) => c.uD e) c.T)
    (V.need (layN (Cf.mk c.W c.L c.C c.T c.D c.H c.B c.A c.P c.nP c.rc c.nU c.cu (fun (e : Nat) => c.lenP e) (fun (e : Nat) => c.FC e) (fun (i e : Nat) => c.iO i e) (fun (i e : Nat) => c.iA i e) (fun (i e : Nat) => c.iB i e) (fun (e : Nat) => c.uP e) (fun (e : Nat) => c.uL e) fun (e : Nat) => c.uD e) c.D = layN (Cf.mk c.W c.L c.C c.T c.D c.H c.B c.A c.P c.nP c.rc c.nU c.cu (fun (e : Nat) => c.lenP e) (fun (e : Nat) => c.FC e) (fun (i e : Nat) => c.iO i e) (fun (i e : Nat) => c.iA i e) (fun (i e : Nat) => c.iB i e) (fun (e : Nat) => c.uP e) (fun (e : Nat) => c.uL e) fun (e : Nat) => c.uD e) c.D)
    (V.need (layN (Cf.mk c.W c.L c.C c.T c.D c.H c.B c.A c.P c.nP c.rc c.nU c.cu (fun (e : Nat) => c.lenP e) (fun (e : Nat) => c.FC e) (fun (i e : Nat) => c.iO i e) (fun (i e : Nat) => c.iA i e) (fun (i e : Nat) => c.iB i e) (fun (e : Nat) => c.uP e) (fun (e : Nat) => c.uL e) fun (e : Nat) => c.uD e) c.H = layN (Cf.mk c.W c.L c.C c.T c.D c.H c.B c.A c.P c.nP c.rc c.nU c.cu (fun (e : Nat) => c.lenP e) (fun (e : Nat) => c.FC e) (fun (i e : Nat) => c.iO i e) (fun (i e : Nat) => c.iA i e) (fun (i e : Nat) => c.iB i e) (fun (e : Nat) => c.uP e) (fun (e : Nat) => c.uL e) fun (e : Nat) => c.uD e) c.H)
    (V.need (layN (Cf.mk c.W c.L c.C c.T c.D c.H c.B c.A c.P c.nP c.rc c.nU c.cu (fun (e : Nat) => c.lenP e) (fun (e : Nat) => c.FC e) (fun (i e : Nat) => c.iO i e) (fun (i e : Nat) => c.iA i e) (fun (i e : Nat) => c.iB i e) (fun (e : Nat) => c.uP e) (fun (e : Nat) => c.uL e) fun (e : Nat) => c.uD e) (lS (Cf.mk c.W c.L c.C c.T c.D c.H c.B c.A c.P c.nP c.rc c.nU c.cu (fun (e : Nat) => c.lenP e) (fun (e : Nat) => c.FC e) (fun (i e : Nat) => c.iO i e) (fun (i e : Nat) => c.iA i e) (fun (i e : Nat) => c.iB i e) (fun (e : Nat) => c.uP e) (fun (e : Nat) => c.uL e) fun (e : Nat) => c.uD e)) = layN (Cf.mk c.W c.L c.C c.T c.D c.H c.B c.A c.P c.nP c.rc c.nU c.cu (fun (e : Nat) => c.lenP e) (fun (e : Nat) => c.FC e) (fun (i e : Nat) => c.iO i e) (fun (i e : Nat) => c.iA i e) (fun (i e : Nat) => c.iB i e) (fun (e : Nat) => c.uP e) (fun (e : Nat) => c.uL e) fun (e : Nat) => c.uD e) (lS (Cf.mk c.W c.L c.C c.T c.D c.H c.B c.A c.P c.nP c.rc c.nU c.cu (fun (e : Nat) => c.lenP e) (fun (e : Nat) => c.FC e) (fun (i e : Nat) => c.iO i e) (fun (i e : Nat) => c.iA i e) (fun (i e : Nat) => c.iB i e) (fun (e : Nat) => c.uP e) (fun (e : Nat) => c.uL e) fun (e : Nat) => c.uD e)))
    (V.need (layN (Cf.mk c.W c.L c.C c.T c.D c.H c.B c.A c.P c.nP c.rc c.nU c.cu (fun (e : Nat) => c.lenP e) (fun (e : Nat) => c.FC e) (fun (i e : Nat) => c.iO i e) (fun (i e : Nat) => c.iA i e) (fun (i e : Nat) => c.iB i e) (fun (e : Nat) => c.uP e) (fun (e : Nat) => c.uL e) fun (e : Nat) => c.uD e) (lE (Cf.mk c.W c.L c.C c.T c.D c.H c.B c.A c.P c.nP c.rc c.nU c.cu (fun (e : Nat) => c.lenP e) (fun (e : Nat) => c.FC e) (fun (i e : Nat) => c.iO i e) (fun (i e : Nat) => c.iA i e) (fun (i e : Nat) => c.iB i e) (fun (e : Nat) => c.uP e) (fun (e : Nat) => c.uL e) fun (e : Nat) => c.uD e)) = layN (Cf.mk c.W c.L c.C c.T c.D c.H c.B c.A c.P c.nP c.rc c.nU c.cu (fun (e : Nat) => c.lenP e) (fun (e : Nat) => c.FC e) (fun (i e : Nat) => c.iO i e) (fun (i e : Nat) => c.iA i e) (fun (i e : Nat) => c.iB i e) (fun (e : Nat) => c.uP e) (fun (e : Nat) => c.uL e) fun (e : Nat) => c.uD e) (lE (Cf.mk c.W c.L c.C c.T c.D c.H c.B c.A c.P c.nP c.rc c.nU c.cu (fun (e : Nat) => c.lenP e) (fun (e : Nat) => c.FC e) (fun (i e : Nat) => c.iO i e) (fun (i e : Nat) => c.iA i e) (fun (i e : Nat) => c.iB i e) (fun (e : Nat) => c.uP e) (fun (e : Nat) => c.uL e) fun (e : Nat) => c.uD e)))
    (V.need (layN (Cf.mk c.W c.L c.C c.T c.D c.H c.B c.A c.P c.nP c.rc c.nU c.cu (fun (e : Nat) => c.lenP e) (fun (e : Nat) => c.FC e) (fun (i e : Nat) => c.iO i e) (fun (i e : Nat) => c.iA i e) (fun (i e : Nat) => c.iB i e) (fun (e : Nat) => c.uP e) (fun (e : Nat) => c.uL e) fun (e : Nat) => c.uD e) (lB (Cf.mk c.W c.L c.C c.T c.D c.H c.B c.A c.P c.nP c.rc c.nU c.cu (fun (e : Nat) => c.lenP e) (fun (e : Nat) => c.FC e) (fun (i e : Nat) => c.iO i e) (fun (i e : Nat) => c.iA i e) (fun (i e : Nat) => c.iB i e) (fun (e : Nat) => c.uP e) (fun (e : Nat) => c.uL e) fun (e : Nat) => c.uD e)) = layN (Cf.mk c.W c.L c.C c.T c.D c.H c.B c.A c.P c.nP c.rc c.nU c.cu (fun (e : Nat) => c.lenP e) (fun (e : Nat) => c.FC e) (fun (i e : Nat) => c.iO i e) (fun (i e : Nat) => c.iA i e) (fun (i e : Nat) => c.iB i e) (fun (e : Nat) => c.uP e) (fun (e : Nat) => c.uL e) fun (e : Nat) => c.uD e) (lB (Cf.mk c.W c.L c.C c.T c.D c.H c.B c.A c.P c.nP c.rc c.nU c.cu (fun (e : Nat) => c.lenP e) (fun (e : Nat) => c.FC e) (fun (i e : Nat) => c.iO i e) (fun (i e : Nat) => c.iA i e) (fun (i e : Nat) => c.iB i e) (fun (e : Nat) => c.uP e) (fun (e : Nat) => c.uL e) fun (e : Nat) => c.uD e)))
    (V.need (layN (Cf.mk c.W c.L c.C c.T c.D c.H c.B c.A c.P c.nP c.rc c.nU c.cu (fun (e : Nat) => c.lenP e) (fun (e : Nat) => c.FC e) (fun (i e : Nat) => c.iO i e) (fun (i e : Nat) => c.iA i e) (fun (i e : Nat) => c.iB i e) (fun (e : Nat) => c.uP e) (fun (e : Nat) => c.uL e) fun (e : Nat) => c.uD e) (lQ (Cf.mk c.W c.L c.C c.T c.D c.H c.B c.A c.P c.nP c.rc c.nU c.cu (fun (e : Nat) => c.lenP e) (fun (e : Nat) => c.FC e) (fun (i e : Nat) => c.iO i e) (fun (i e : Nat) => c.iA i e) (fun (i e : Nat) => c.iB i e) (fun (e : Nat) => c.uP e) (fun (e : Nat) => c.uL e) fun (e : Nat) => c.uD e)) = layN (Cf.mk c.W c.L c.C c.T c.D c.H c.B c.A c.P c.nP c.rc c.nU c.cu (fun (e : Nat) => c.lenP e) (fun (e : Nat) => c.FC e) (fun (i e : Nat) => c.iO i e) (fun (i e : Nat) => c.iA i e) (fun (i e : Nat) => c.iB i e) (fun (e : Nat) => c.uP e) (fun (e : Nat) => c.uL e) fun (e : Nat) => c.uD e) (lQ (Cf.mk c.W c.L c.C c.T c.D c.H c.B c.A c.P c.nP c.rc c.nU c.cu (fun (e : Nat) => c.lenP e) (fun (e : Nat) => c.FC e) (fun (i e : Nat) => c.iO i e) (fun (i e : Nat) => c.iA i e) (fun (i e : Nat) => c.iB i e) (fun (e : Nat) => c.uP e) (fun (e : Nat) => c.uL e) fun (e : Nat) => c.uD e)))
    (V.need (layN (Cf.mk c.W c.L c.C c.T c.D c.H c.B c.A c.P c.nP c.rc c.nU c.cu (fun (e : Nat) => c.lenP e) (fun (e : Nat) => c.FC e) (fun (i e : Nat) => c.iO i e) (fun (i e : Nat) => c.iA i e) (fun (i e : Nat) => c.iB i e) (fun (e : Nat) => c.uP e) (fun (e : Nat) => c.uL e) fun (e : Nat) => c.uD e) (lT (Cf.mk c.W c.L c.C c.T c.D c.H c.B c.A c.P c.nP c.rc c.nU c.cu (fun (e : Nat) => c.lenP e) (fun (e : Nat) => c.FC e) (fun (i e : Nat) => c.iO i e) (fun (i e : Nat) => c.iA i e) (fun (i e : Nat) => c.iB i e) (fun (e : Nat) => c.uP e) (fun (e : Nat) => c.uL e) fun (e : Nat) => c.uD e)) = layN (Cf.mk c.W c.L c.C c.T c.D c.H c.B c.A c.P c.nP c.rc c.nU c.cu (fun (e : Nat) => c.lenP e) (fun (e : Nat) => c.FC e) (fun (i e : Nat) => c.iO i e) (fun (i e : Nat) => c.iA i e) (fun (i e : Nat) => c.iB i e) (fun (e : Nat) => c.uP e) (fun (e : Nat) => c.uL e) fun (e : Nat) => c.uD e) (lT (Cf.mk c.W c.L c.C c.T c.D c.H c.B c.A c.P c.nP c.rc c.nU c.cu (fun (e : Nat) => c.lenP e) (fun (e : Nat) => c.FC e) (fun (i e : Nat) => c.iO i e) (fun (i e : Nat) => c.iA i e) (fun (i e : Nat) => c.iB i e) (fun (e : Nat) => c.uP e) (fun (e : Nat) => c.uL e) fun (e : Nat) => c.uD e)))
    (V.need (0 = 0)
    (V.need (0 = 0)
    (V.need (0 = 0)
    (V.need (0 ≤ 0)
    (V.need (∀ (e : Nat), e < 0 → Int.ofNat 0 = Int.ofNat 0)
    (V.need (∀ (e : Nat), e < 0 → -Int.ofNat 1 = -Int.ofNat 1)
    (V.need (∀ (e : Nat), e < 0 → Int.ofNat 0 = Int.ofNat 0)
    (V.need (∀ (e : Nat), e < 0 → Int.ofNat 0 = Int.ofNat 0)
    (V.need (∀ (e : Nat), e < 0 → -Int.ofNat 1 = -Int.ofNat 1)
    (V.need (∀ (e : Nat), e < 0 → false = false)
    (V.any (Int × Nat) (fun (x : Int × Nat) => Int.ofNat 0 ≤ x.fst ∧ x.fst ≤ c.T ∧ x.fst.toNat ≤ x.snd) fun (x_1 : Int × Nat) => V.br (decide (x_1.fst < c.T))
    (V.need (0 < 1)
    (V.need (0 < 1)
    (V.need (0 < 1)
    (V.need (0 < 1)
    (V.need (0 < 1)
    (V.need (0 < 1)
    (V.need (0 < 1)
    (V.need (x_1.fst.toNat ≤ x_1.fst.toNat ∧ x_1.snd = x_1.snd)
    (V.need (x_1.fst.toNat + 1 ≤ 9223372036854775807 ∧ (x_1.fst.toNat + 1) * 72 ≤ 140737488355328)
    (V.any Nat (fun (x : Nat) => x_1.fst.toNat + 1 ≤ x) fun (x_2 : Nat) => V.need (Int.ofNat 0 ≤ IntKind.i64.wrap (x_1.fst + Int.ofNat 1) ∧ IntKind.i64.wrap (x_1.fst + Int.ofNat 1) ≤ c.T ∧ (IntKind.i64.wrap (x_1.fst + Int.ofNat 1)).toNat ≤ x_2)
    (V.need ((c.T - IntKind.i64.wrap (x_1.fst + Int.ofNat 1)).toNat < (c.T - x_1.fst).toNat)
    (V.need (IntKind.i64.wrap (x_1.fst + Int.ofNat 1) = IntKind.i64.wrap (x_1.fst + Int.ofNat 1))
    (V.need (x.W = x.W)
    (V.need (x.L = x.L)
    (V.need (x.C = x.C)
    (V.need (x.T = x.T)
    (V.need (x.D = x.D)
    (V.need (x.H = x.H)
    (V.need (x.B = x.B)
    (V.need (x.A = x.A)
    (V.need (x.P = x.P)
    (V.need (x.nP = x.nP)
    (V.need (x.rc = x.rc)
    (V.need (x.nU = x.nU)
    (V.need (x.cu = x.cu)
    (V.need (layN (Cf.mk c.W c.L c.C c.T c.D c.H c.B c.A c.P c.nP c.rc c.nU c.cu (fun (e : Nat) => c.lenP e) (fun (e : Nat) => c.FC e) (fun (i e : Nat) => c.iO i e) (fun (i e : Nat) => c.iA i e) (fun (i e : Nat) => c.iB i e) (fun (e : Nat) => c.uP e) (fun (e : Nat) => c.uL e) fun (e : Nat) => c.uD e) c.W = layN (Cf.mk c.W c.L c.C c.T c.D c.H c.B c.A c.P c.nP c.rc c.nU c.cu (fun (e : Nat) => c.lenP e) (fun (e : Nat) => c.FC e) (fun (i e : Nat) => c.iO i e) (fun (i e : Nat) => c.iA i e) (fun (i e : Nat) => c.iB i e) (fun (e : Nat) => c.uP e) (fun (e : Nat) => c.uL e) fun (e : Nat) => c.uD e) c.W)
    (V.need (layN (Cf.mk c.W c.L c.C c.T c.D c.H c.B c.A c.P c.nP c.rc c.nU c.cu (fun (e : Nat) => c.lenP e) (fun (e : Nat) => c.FC e) (fun (i e : Nat) => c.iO i e) (fun (i e : Nat) => c.iA i e) (fun (i e : Nat) => c.iB i e) (fun (e : Nat) => c.uP e) (fun (e : Nat) => c.uL e) fun (e : Nat) => c.uD e) c.L = layN (Cf.mk c.W c.L c.C c.T c.D c.H c.B c.A c.P c.nP c.rc c.nU c.cu (fun (e : Nat) => c.lenP e) (fun (e : Nat) => c.FC e) (fun (i e : Nat) => c.iO i e) (fun (i e : Nat) => c.iA i e) (fun (i e : Nat) => c.iB i e) (fun (e : Nat) => c.uP e) (fun (e : Nat) => c.uL e) fun (e : Nat) => c.uD e) c.L)
    (V.need (layN (Cf.mk c.W c.L c.C c.T c.D c.H c.B c.A c.P c.nP c.rc c.nU c.cu (fun (e : Nat) => c.lenP e) (fun (e : Nat) => c.FC e) (fun (i e : Nat) => c.iO i e) (fun (i e : Nat) => c.iA i e) (fun (i e : Nat) => c.iB i e) (fun (e : Nat) => c.uP e) (fun (e : Nat) => c.uL e) fun (e : Nat) => c.uD e) c.C = layN (Cf.mk c.W c.L c.C c.T c.D c.H c.B c.A c.P c.nP c.rc c.nU c.cu (fun (e : Nat) => c.lenP e) (fun (e : Nat) => c.FC e) (fun (i e : Nat) => c.iO i e) (fun (i e : Nat) => c.iA i e) (fun (i e : Nat) => c.iB i e) (fun (e : Nat) => c.uP e) (fun (e : Nat) => c.uL e) fun (e : Nat) => c.uD e) c.C)
    (V.need (layN (Cf.mk c.W c.L c.C c.T c.D c.H c.B c.A c.P c.nP c.rc c.nU c.cu (fun (e : Nat) => c.lenP e) (fun (e : Nat) => c.FC e) (fun (i e : Nat) => c.iO i e) (fun (i e : Nat) => c.iA i e) (fun (i e : Nat) => c.iB i e) (fun (e : Nat) => c.uP e) (fun (e : Nat) => c.uL e) fun (e : Nat) => c.uD e) c.T = layN (Cf.mk c.W c.L c.C c.T c.D c.H c.B c.A c.P c.nP c.rc c.nU c.cu (fun (e : Nat) => c.lenP e) (fun (e : Nat) => c.FC e) (fun (i e : Nat) => c.iO i e) (fun (i e : Nat) => c.iA i e) (fun (i e : Nat) => c.iB i e) (fun (e : Nat) => c.uP e) (fun (e : Nat) => c.uL e) fun (e : Nat) => c.uD e) c.T)
    (V.need (layN (Cf.mk c.W c.L c.C c.T c.D c.H c.B c.A c.P c.nP c.rc c.nU c.cu (fun (e : Nat) => c.lenP e) (fun (e : Nat) => c.FC e) (fun (i e : Nat) => c.iO i e) (fun (i e : Nat) => c.iA i e) (fun (i e : Nat) => c.iB i e) (fun (e : Nat) => c.uP e) (fun (e : Nat) => c.uL e) fun (e : Nat) => c.uD e) c.D = layN (Cf.mk c.W c.L c.C c.T c.D c.H c.B c.A c.P c.nP c.rc c.nU c.cu (fun (e : Nat) => c.lenP e) (fun (e : Nat) => c.FC e) (fun (i e : Nat) => c.iO i e) (fun (i e : Nat) => c.iA i e) (fun (i e : Nat) => c.iB i e) (fun (e : Nat) => c.uP e) (fun (e : Nat) => c.uL e) fun (e : Nat) => c.uD e) c.D)
    (V.need (layN (Cf.mk c.W c.L c.C c.T c.D c.H c.B c.A c.P c.nP c.rc c.nU c.cu (fun (e : Nat) => c.lenP e) (fun (e : Nat) => c.FC e) (fun (i e : Nat) => c.iO i e) (fun (i e : Nat) => c.iA i e) (fun (i e : Nat) => c.iB i e) (fun (e : Nat) => c.uP e) (fun (e : Nat) => c.uL e) fun (e : Nat) => c.uD e) c.H = layN (Cf.mk c.W c.L c.C c.T c.D c.H c.B c.A c.P c.nP c.rc c.nU c.cu (fun (e : Nat) => c.lenP e) (fun (e : Nat) => c.FC e) (fun (i e : Nat) => c.iO i e) (fun (i e : Nat) => c.iA i e) (fun (i e : Nat) => c.iB i e) (fun (e : Nat) => c.uP e) (fun (e : Nat) => c.uL e) fun (e : Nat) => c.uD e) c.H)
    (V.need (layN (Cf.mk c.W c.L c.C c.T c.D c.H c.B c.A c.P c.nP c.rc c.nU c.cu (fun (e : Nat) => c.lenP e) (fun (e : Nat) => c.FC e) (fun (i e : Nat) => c.iO i e) (fun (i e : Nat) => c.iA i e) (fun (i e : Nat) => c.iB i e) (fun (e : Nat) => c.uP e) (fun (e : Nat) => c.uL e) fun (e : Nat) => c.uD e) (lS (Cf.mk c.W c.L c.C c.T c.D c.H c.B c.A c.P c.nP c.rc c.nU c.cu (fun (e : Nat) => c.lenP e) (fun (e : Nat) => c.FC e) (fun (i e : Nat) => c.iO i e) (fun (i e : Nat) => c.iA i e) (fun (i e : Nat) => c.iB i e) (fun (e : Nat) => c.uP e) (fun (e : Nat) => c.uL e) fun (e : Nat) => c.uD e)) = layN (Cf.mk c.W c.L c.C c.T c.D c.H c.B c.A c.P c.nP c.rc c.nU c.cu (fun (e : Nat) => c.lenP e) (fun (e : Nat) => c.FC e) (fun (i e : Nat) => c.iO i e) (fun (i e : Nat) => c.iA i e) (fun (i e : Nat) => c.iB i e) (fun (e : Nat) => c.uP e) (fun (e : Nat) => c.uL e) fun (e : Nat) => c.uD e) (lS (Cf.mk c.W c.L c.C c.T c.D c.H c.B c.A c.P c.nP c.rc c.nU c.cu (fun (e : Nat) => c.lenP e) (fun (e : Nat) => c.FC e) (fun (i e : Nat) => c.iO i e) (fun (i e : Nat) => c.iA i e) (fun (i e : Nat) => c.iB i e) (fun (e : Nat) => c.uP e) (fun (e : Nat) => c.uL e) fun (e : Nat) => c.uD e)))
    (V.need (layN (Cf.mk c.W c.L c.C c.T c.D c.H c.B c.A c.P c.nP c.rc c.nU c.cu (fun (e : Nat) => c.lenP e) (fun (e : Nat) => c.FC e) (fun (i e : Nat) => c.iO i e) (fun (i e : Nat) => c.iA i e) (fun (i e : Nat) => c.iB i e) (fun (e : Nat) => c.uP e) (fun (e : Nat) => c.uL e) fun (e : Nat) => c.uD e) (lE (Cf.mk c.W c.L c.C c.T c.D c.H c.B c.A c.P c.nP c.rc c.nU c.cu (fun (e : Nat) => c.lenP e) (fun (e : Nat) => c.FC e) (fun (i e : Nat) => c.iO i e) (fun (i e : Nat) => c.iA i e) (fun (i e : Nat) => c.iB i e) (fun (e : Nat) => c.uP e) (fun (e : Nat) => c.uL e) fun (e : Nat) => c.uD e)) = layN (Cf.mk c.W c.L c.C c.T c.D c.H c.B c.A c.P c.nP c.rc c.nU c.cu (fun (e : Nat) => c.lenP e) (fun (e : Nat) => c.FC e) (fun (i e : Nat) => c.iO i e) (fun (i e : Nat) => c.iA i e) (fun (i e : Nat) => c.iB i e) (fun (e : Nat) => c.uP e) (fun (e : Nat) => c.uL e) fun (e : Nat) => c.uD e) (lE (Cf.mk c.W c.L c.C c.T c.D c.H c.B c.A c.P c.nP c.rc c.nU c.cu (fun (e : Nat) => c.lenP e) (fun (e : Nat) => c.FC e) (fun (i e : Nat) => c.iO i e) (fun (i e : Nat) => c.iA i e) (fun (i e : Nat) => c.iB i e) (fun (e : Nat) => c.uP e) (fun (e : Nat) => c.uL e) fun (e : Nat) => c.uD e)))
    (V.need (layN (Cf.mk c.W c.L c.C c.T c.D c.H c.B c.A c.P c.nP c.rc c.nU c.cu (fun (e : Nat) => c.lenP e) (fun (e : Nat) => c.FC e) (fun (i e : Nat) => c.iO i e) (fun (i e : Nat) => c.iA i e) (fun (i e : Nat) => c.iB i e) (fun (e : Nat) => c.uP e) (fun (e : Nat) => c.uL e) fun (e : Nat) => c.uD e) (lB (Cf.mk c.W c.L c.C c.T c.D c.H c.B c.A c.P c.nP c.rc c.nU c.cu (fun (e : Nat) => c.lenP e) (fun (e : Nat) => c.FC e) (fun (i e : Nat) => c.iO i e) (fun (i e : Nat) => c.iA i e) (fun (i e : Nat) => c.iB i e) (fun (e : Nat) => c.uP e) (fun (e : Nat) => c.uL e) fun (e : Nat) => c.uD e)) = layN (Cf.mk c.W c.L c.C c.T c.D c.H c.B c.A c.P c.nP c.rc c.nU c.cu (fun (e : Nat) => c.lenP e) (fun (e : Nat) => c.FC e) (fun (i e : Nat) => c.iO i e) (fun (i e : Nat) => c.iA i e) (fun (i e : Nat) => c.iB i e) (fun (e : Nat) => c.uP e) (fun (e : Nat) => c.uL e) fun (e : Nat) => c.uD e) (lB (Cf.mk c.W c.L c.C c.T c.D c.H c.B c.A c.P c.nP c.rc c.nU c.cu (fun (e : Nat) => c.lenP e) (fun (e : Nat) => c.FC e) (fun (i e : Nat) => c.iO i e) (fun (i e : Nat) => c.iA i e) (fun (i e : Nat) => c.iB i e) (fun (e : Nat) => c.uP e) (fun (e : Nat) => c.uL e) fun (e : Nat) => c.uD e)))
    (V.need (layN (Cf.mk c.W c.L c.C c.T c.D c.H c.B c.A c.P c.nP c.rc c.nU c.cu (fun (e : Nat) => c.lenP e) (fun (e : Nat) => c.FC e) (fun (i e : Nat) => c.iO i e) (fun (i e : Nat) => c.iA i e) (fun (i e : Nat) => c.iB i e) (fun (e : Nat) => c.uP e) (fun (e : Nat) => c.uL e) fun (e : Nat) => c.uD e) (lQ (Cf.mk c.W c.L c.C c.T c.D c.H c.B c.A c.P c.nP c.rc c.nU c.cu (fun (e : Nat) => c.lenP e) (fun (e : Nat) => c.FC e) (fun (i e : Nat) => c.iO i e) (fun (i e : Nat) => c.iA i e) (fun (i e : Nat) => c.iB i e) (fun (e : Nat) => c.uP e) (fun (e : Nat) => c.uL e) fun (e : Nat) => c.uD e)) = layN (Cf.mk c.W c.L c.C c.T c.D c.H c.B c.A c.P c.nP c.rc c.nU c.cu (fun (e : Nat) => c.lenP e) (fun (e : Nat) => c.FC e) (fun (i e : Nat) => c.iO i e) (fun (i e : Nat) => c.iA i e) (fun (i e : Nat) => c.iB i e) (fun (e : Nat) => c.uP e) (fun (e : Nat) => c.uL e) fun (e : Nat) => c.uD e) (lQ (Cf.mk c.W c.L c.C c.T c.D c.H c.B c.A c.P c.nP c.rc c.nU c.cu (fun (e : Nat) => c.lenP e) (fun (e : Nat) => c.FC e) (fun (i e : Nat) => c.iO i e) (fun (i e : Nat) => c.iA i e) (fun (i e : Nat) => c.iB i e) (fun (e : Nat) => c.uP e) (fun (e : Nat) => c.uL e) fun (e : Nat) => c.uD e)))
    (V.need (layN (Cf.mk c.W c.L c.C c.T c.D c.H c.B c.A c.P c.nP c.rc c.nU c.cu (fun (e : Nat) => c.lenP e) (fun (e : Nat) => c.FC e) (fun (i e : Nat) => c.iO i e) (fun (i e : Nat) => c.iA i e) (fun (i e : Nat) => c.iB i e) (fun (e : Nat) => c.uP e) (fun (e : Nat) => c.uL e) fun (e : Nat) => c.uD e) (lT (Cf.mk c.W c.L c.C c.T c.D c.H c.B c.A c.P c.nP c.rc c.nU c.cu (fun (e : Nat) => c.lenP e) (fun (e : Nat) => c.FC e) (fun (i e : Nat) => c.iO i e) (fun (i e : Nat) => c.iA i e) (fun (i e : Nat) => c.iB i e) (fun (e : Nat) => c.uP e) (fun (e : Nat) => c.uL e) fun (e : Nat) => c.uD e)) = layN (Cf.mk c.W c.L c.C c.T c.D c.H c.B c.A c.P c.nP c.rc c.nU c.cu (fun (e : Nat) => c.lenP e) (fun (e : Nat) => c.FC e) (fun (i e : Nat) => c.iO i e) (fun (i e : Nat) => c.iA i e) (fun (i e : Nat) => c.iB i e) (fun (e : Nat) => c.uP e) (fun (e : Nat) => c.uL e) fun (e : Nat) => c.uD e) (lT (Cf.mk c.W c.L c.C c.T c.D c.H c.B c.A c.P c.nP c.rc c.nU c.cu (fun (e : Nat) => c.lenP e) (fun (e : Nat) => c.FC e) (fun (i e : Nat) => c.iO i e) (fun (i e : Nat) => c.iA i e) (fun (i e : Nat) => c.iB i e) (fun (e : Nat) => c.uP e) (fun (e : Nat) => c.uL e) fun (e : Nat) => c.uD e)))
    (V.need (x_1.fst.toNat + 1 = (IntKind.i64.wrap (x_1.fst + Int.ofNat 1)).toNat)
    (V.need (x_2 = x_2)
    (V.need (x_2 = x_2)
    (V.need ((IntKind.i64.wrap (x_1.fst + Int.ofNat 1)).toNat ≤ x_1.fst.toNat + 1)
    (V.need (∀ (e : Nat), e < (IntKind.i64.wrap (x_1.fst + Int.ofNat 1)).toNat → (if 0 = 0 ∧ e = x_1.fst.toNat then Int.ofNat 0 else Int.ofNat 0) = Int.ofNat 0)
    (V.need (∀ (e : Nat), e < (IntKind.i64.wrap (x_1.fst + Int.ofNat 1)).toNat → (if 0 = 0 ∧ e = x_1.fst.toNat then Int.negSucc 0 else -Int.ofNat 1) = -Int.ofNat 1)
    (V.need (∀ (e : Nat), e < (IntKind.i64.wrap (x_1.fst + Int.ofNat 1)).toNat → (if 0 = 0 ∧ e = x_1.fst.toNat then Int.ofNat 0 else Int.ofNat 0) = Int.ofNat 0)
    (V.need (∀ (e : Nat), e < (IntKind.i64.wrap (x_1.fst + Int.ofNat 1)).toNat → (if 0 = 0 ∧ e = x_1.fst.toNat then Int.ofNat 0 else Int.ofNat 0) = Int.ofNat 0)
    (V.need (∀ (e : Nat), e < (IntKind.i64.wrap (x_1.fst + Int.ofNat 1)).toNat → (if 0 = 0 ∧ e = x_1.fst.toNat then Int.negSucc 0 else -Int.ofNat 1) = -Int.ofNat 1)
    (V.need (∀ (e : Nat), e < (IntKind.i64.wrap (x_1.fst + Int.ofNat 1)).toNat → (if 0 = 0 ∧ e = x_1.fst.toNat then false else false) = false) V.ok))))))))))))))))))))))))))))))))))))))))))))))
    (V.need (decide (errE c = Int.ofNat 0) = true)
    (V.need (IsCl c (Cf.mk x.W x.L x.C x.T x.D x.H x.B x.A x.P x.nP x.rc x.nU x.cu (fun (e : Nat) => x.lenP e) (fun (e : Nat) => x.FC e) (fun (i e : Nat) => x.iO i e) (fun (i e : Nat) => x.iA i e) (fun (i e : Nat) => x.iB i e) (fun (e : Nat) => x.uP e) (fun (e : Nat) => x.uL e) fun (e : Nat) => x.uD e) ∧ c.T.toNat ≤ x_1.snd)
    (V.need (Int.ofNat 0 = Int.ofNat 0)
    (V.need (x.W = x.W)
    (V.need (x.L = x.L)
    (V.need (x.C = x.C)
    (V.need (x.T = x.T)
    (V.need (x.D = x.D)
    (V.need (x.H = x.H)
    (V.need (x.B = x.B)
    (V.need (x.A = x.A)
    (V.need (x.P = x.P)
    (V.need (x.nP = x.nP)
    (V.need (x.rc = x.rc)
    (V.need (x.nU = x.nU)
    (V.need (x.cu = x.cu)
    (V.need (layN (Cf.mk c.W c.L c.C c.T c.D c.H c.B c.A c.P c.nP c.rc c.nU c.cu (fun (e : Nat) => c.lenP e) (fun (e : Nat) => c.FC e) (fun (i e : Nat) => c.iO i e) (fun (i e : Nat) => c.iA i e) (fun (i e : Nat) => c.iB i e) (fun (e : Nat) => c.uP e) (fun (e : Nat) => c.uL e) fun (e : Nat) => c.uD e) c.W = x.W)
    (V.need (layN (Cf.mk c.W c.L c.C c.T c.D c.H c.B c.A c.P c.nP c.rc c.nU c.cu (fun (e : Nat) => c.lenP e) (fun (e : Nat) => c.FC e) (fun (i e : Nat) => c.iO i e) (fun (i e : Nat) => c.iA i e) (fun (i e : Nat) => c.iB i e) (fun (e : Nat) => c.uP e) (fun (e : Nat) => c.uL e) fun (e : Nat) => c.uD e) c.L = x.L)
    (V.need (layN (Cf.mk c.W c.L c.C c.T c.D c.H c.B c.A c.P c.nP c.rc c.nU c.cu (fun (e : Nat) => c.lenP e) (fun (e : Nat) => c.FC e) (fun (i e : Nat) => c.iO i e) (fun (i e : Nat) => c.iA i e) (fun (i e : Nat) => c.iB i e) (fun (e : Nat) => c.uP e) (fun (e : Nat) => c.uL e) fun (e : Nat) => c.uD e) c.C = x.C)
    (V.need (layN (Cf.mk c.W c.L c.C c.T c.D c.H c.B c.A c.P c.nP c.rc c.nU c.cu (fun (e : Nat) => c.lenP e) (fun (e : Nat) => c.FC e) (fun (i e : Nat) => c.iO i e) (fun (i e : Nat) => c.iA i e) (fun (i e : Nat) => c.iB i e) (fun (e : Nat) => c.uP e) (fun (e : Nat) => c.uL e) fun (e : Nat) => c.uD e) c.T = x.T)
    (V.need (layN (Cf.mk c.W c.L c.C c.T c.D c.H c.B c.A c.P c.nP c.rc c.nU c.cu (fun (e : Nat) => c.lenP e) (fun (e : Nat) => c.FC e) (fun (i e : Nat) => c.iO i e) (fun (i e : Nat) => c.iA i e) (fun (i e : Nat) => c.iB i e) (fun (e : Nat) => c.uP e) (fun (e : Nat) => c.uL e) fun (e : Nat) => c.uD e) c.D = x.D)
    (V.need (layN (Cf.mk c.W c.L c.C c.T c.D c.H c.B c.A c.P c.nP c.rc c.nU c.cu (fun (e : Nat) => c.lenP e) (fun (e : Nat) => c.FC e) (fun (i e : Nat) => c.iO i e) (fun (i e : Nat) => c.iA i e) (fun (i e : Nat) => c.iB i e) (fun (e : Nat) => c.uP e) (fun (e : Nat) => c.uL e) fun (e : Nat) => c.uD e) c.H = x.H)
    (V.need (layN (Cf.mk c.W c.L c.C c.T c.D c.H c.B c.A c.P c.nP c.rc c.nU c.cu (fun (e : Nat) => c.lenP e) (fun (e : Nat) => c.FC e) (fun (i e : Nat) => c.iO i e) (fun (i e : Nat) => c.iA i e) (fun (i e : Nat) => c.iB i e) (fun (e : Nat) => c.uP e) (fun (e : Nat) => c.uL e) fun (e : Nat) => c.uD e) (lS (Cf.mk c.W c.L c.C c.T c.D c.H c.B c.A c.P c.nP c.rc c.nU c.cu (fun (e : Nat) => c.lenP e) (fun (e : Nat) => c.FC e) (fun (i e : Nat) => c.iO i e) (fun (i e : Nat) => c.iA i e) (fun (i e : Nat) => c.iB i e) (fun (e : Nat) => c.uP e) (fun (e : Nat) => c.uL e) fun (e : Nat) => c.uD e)) = lS (Cf.mk x.W x.L x.C x.T x.D x.H x.B x.A x.P x.nP x.rc x.nU x.cu (fun (e : Nat) => x.lenP e) (fun (e : Nat) => x.FC e) (fun (i e : Nat) => x.iO i e) (fun (i e : Nat) => x.iA i e) (fun (i e : Nat) => x.iB i e) (fun (e : Nat) => x.uP e) (fun (e : Nat) => x.uL e) fun (e : Nat) => x.uD e))
    (V.need (layN (Cf.mk c.W c.L c.C c.T c.D c.H c.B c.A c.P c.nP c.rc c.nU c.cu (fun (e : Nat) => c.lenP e) (fun (e : Nat) => c.FC e) (fun (i e : Nat) => c.iO i e) (fun (i e : Nat) => c.iA i e) (fun (i e : Nat) => c.iB i e) (fun (e : Nat) => c.uP e) (fun (e : Nat) => c.uL e) fun (e : Nat) => c.uD e) (lE (Cf.mk c.W c.L c.C c.T c.D c.H c.B c.A c.P c.nP c.rc c.nU c.cu (fun (e : Nat) => c.lenP e) (fun (e : Nat) => c.FC e) (fun (i e : Nat) => c.iO i e) (fun (i e : Nat) => c.iA i e) (fun (i e : Nat) => c.iB i e) (fun (e : Nat) => c.uP e) (fun (e : Nat) => c.uL e) fun (e : Nat) => c.uD e)) = lE (Cf.mk x.W x.L x.C x.T x.D x.H x.B x.A x.P x.nP x.rc x.nU x.cu (fun (e : Nat) => x.lenP e) (fun (e : Nat) => x.FC e) (fun (i e : Nat) => x.iO i e) (fun (i e : Nat) => x.iA i e) (fun (i e : Nat) => x.iB i e) (fun (e : Nat) => x.uP e) (fun (e : Nat) => x.uL e) fun (e : Nat) => x.uD e))
    (V.need (layN (Cf.mk c.W c.L c.C c.T c.D c.H c.B c.A c.P c.nP c.rc c.nU c.cu (fun (e : Nat) => c.lenP e) (fun (e : Nat) => c.FC e) (fun (i e : Nat) => c.iO i e) (fun (i e : Nat) => c.iA i e) (fun (i e : Nat) => c.iB i e) (fun (e : Nat) => c.uP e) (fun (e : Nat) => c.uL e) fun (e : Nat) => c.uD e) (lB (Cf.mk c.W c.L c.C c.T c.D c.H c.B c.A c.P c.nP c.rc c.nU c.cu (fun (e : Nat) => c.lenP e) (fun (e : Nat) => c.FC e) (fun (i e : Nat) => c.iO i e) (fun (i e : Nat) => c.iA i e) (fun (i e : Nat) => c.iB i e) (fun (e : Nat) => c.uP e) (fun (e : Nat) => c.uL e) fun (e : Nat) => c.uD e)) = lB (Cf.mk x.W x.L x.C x.T x.D x.H x.B x.A x.P x.nP x.rc x.nU x.cu (fun (e : Nat) => x.lenP e) (fun (e : Nat) => x.FC e) (fun (i e : Nat) => x.iO i e) (fun (i e : Nat) => x.iA i e) (fun (i e : Nat) => x.iB i e) (fun (e : Nat) => x.uP e) (fun (e : Nat) => x.uL e) fun (e : Nat) => x.uD e))
    (V.need (layN (Cf.mk c.W c.L c.C c.T c.D c.H c.B c.A c.P c.nP c.rc c.nU c.cu (fun (e : Nat) => c.lenP e) (fun (e : Nat) => c.FC e) (fun (i e : Nat) => c.iO i e) (fun (i e : Nat) => c.iA i e) (fun (i e : Nat) => c.iB i e) (fun (e : Nat) => c.uP e) (fun (e : Nat) => c.uL e) fun (e : Nat) => c.uD e) (lQ (Cf.mk c.W c.L c.C c.T c.D c.H c.B c.A c.P c.nP c.rc c.nU c.cu (fun (e : Nat) => c.lenP e) (fun (e : Nat) => c.FC e) (fun (i e : Nat) => c.iO i e) (fun (i e : Nat) => c.iA i e) (fun (i e : Nat) => c.iB i e) (fun (e : Nat) => c.uP e) (fun (e : Nat) => c.uL e) fun (e : Nat) => c.uD e)) = lQ (Cf.mk x.W x.L x.C x.T x.D x.H x.B x.A x.P x.nP x.rc x.nU x.cu (fun (e : Nat) => x.lenP e) (fun (e : Nat) => x.FC e) (fun (i e : Nat) => x.iO i e) (fun (i e : Nat) => x.iA i e) (fun (i e : Nat) => x.iB i e) (fun (e : Nat) => x.uP e) (fun (e : Nat) => x.uL e) fun (e : Nat) => x.uD e))
    (V.need (layN (Cf.mk c.W c.L c.C c.T c.D c.H c.B c.A c.P c.nP c.rc c.nU c.cu (fun (e : Nat) => c.lenP e) (fun (e : Nat) => c.FC e) (fun (i e : Nat) => c.iO i e) (fun (i e : Nat) => c.iA i e) (fun (i e : Nat) => c.iB i e) (fun (e : Nat) => c.uP e) (fun (e : Nat) => c.uL e) fun (e : Nat) => c.uD e) (lT (Cf.mk c.W c.L c.C c.T c.D c.H c.B c.A c.P c.nP c.rc c.nU c.cu (fun (e : Nat) => c.lenP e) (fun (e : Nat) => c.FC e) (fun (i e : Nat) => c.iO i e) (fun (i e : Nat) => c.iA i e) (fun (i e : Nat) => c.iB i e) (fun (e : Nat) => c.uP e) (fun (e : Nat) => c.uL e) fun (e : Nat) => c.uD e)) = lT (Cf.mk x.W x.L x.C x.T x.D x.H x.B x.A x.P x.nP x.rc x.nU x.cu (fun (e : Nat) => x.lenP e) (fun (e : Nat) => x.FC e) (fun (i e : Nat) => x.iO i e) (fun (i e : Nat) => x.iA i e) (fun (i e : Nat) => x.iB i e) (fun (e : Nat) => x.uP e) (fun (e : Nat) => x.uL e) fun (e : Nat) => x.uD e))
    (V.need (x_1.fst.toNat = c.T.toNat)
    (V.need (x_1.snd = x_1.snd)
    (V.need ((min (max (IntKind.i64.wrap (layN (Cf.mk c.W c.L c.C c.T c.D c.H c.B c.A c.P c.nP c.rc c.nU c.cu (fun (e : Nat) => c.lenP e) (fun (e : Nat) => c.FC e) (fun (i e : Nat) => c.iO i e) (fun (i e : Nat) => c.iA i e) (fun (i e : Nat) => c.iB i e) (fun (e : Nat) => c.uP e) (fun (e : Nat) => c.uL e) fun (e : Nat) => c.uD e) (lT (Cf.mk c.W c.L c.C c.T c.D c.H c.B c.A c.P c.nP c.rc c.nU c.cu (fun (e : Nat) => c.lenP e) (fun (e : Nat) => c.FC e) (fun (i e : Nat) => c.iO i e) (fun (i e : Nat) => c.iA i e) (fun (i e : Nat) => c.iB i e) (fun (e : Nat) => c.uP e) (fun (e : Nat) => c.uL e) fun (e : Nat) => c.uD e)) + IntKind.i64.wrap (Int.ofNat 5 * layN (Cf.mk c.W c.L c.C c.T c.D c.H c.B c.A c.P c.nP c.rc c.nU c.cu (fun (e : Nat) => c.lenP e) (fun (e : Nat) => c.FC e) (fun (i e : Nat) => c.iO i e) (fun (i e : Nat) => c.iA i e) (fun (i e : Nat) => c.iB i e) (fun (e : Nat) => c.uP e) (fun (e : Nat) => c.uL e) fun (e : Nat) => c.uD e) c.T))) (Int.ofNat 0)) (Int.ofNat 131072)).toNat = ncN (Cf.mk x.W x.L x.C x.T x.D x.H x.B x.A x.P x.nP x.rc x.nU x.cu (fun (e : Nat) => x.lenP e) (fun (e : Nat) => x.FC e) (fun (i e : Nat) => x.iO i e) (fun (i e : Nat) => x.iA i e) (fun (i e : Nat) => x.iB i e) (fun (e : Nat) => x.uP e) (fun (e : Nat) => x.uL e) fun (e : Nat) => x.uD e))
    (V.need ((min (max (IntKind.i64.wrap (layN (Cf.mk c.W c.L c.C c.T c.D c.H c.B c.A c.P c.nP c.rc c.nU c.cu (fun (e : Nat) => c.lenP e) (fun (e : Nat) => c.FC e) (fun (i e : Nat) => c.iO i e) (fun (i e : Nat) => c.iA i e) (fun (i e : Nat) => c.iB i e) (fun (e : Nat) => c.uP e) (fun (e : Nat) => c.uL e) fun (e : Nat) => c.uD e) (lT (Cf.mk c.W c.L c.C c.T c.D c.H c.B c.A c.P c.nP c.rc c.nU c.cu (fun (e : Nat) => c.lenP e) (fun (e : Nat) => c.FC e) (fun (i e : Nat) => c.iO i e) (fun (i e : Nat) => c.iA i e) (fun (i e : Nat) => c.iB i e) (fun (e : Nat) => c.uP e) (fun (e : Nat) => c.uL e) fun (e : Nat) => c.uD e)) + IntKind.i64.wrap (Int.ofNat 5 * layN (Cf.mk c.W c.L c.C c.T c.D c.H c.B c.A c.P c.nP c.rc c.nU c.cu (fun (e : Nat) => c.lenP e) (fun (e : Nat) => c.FC e) (fun (i e : Nat) => c.iO i e) (fun (i e : Nat) => c.iA i e) (fun (i e : Nat) => c.iB i e) (fun (e : Nat) => c.uP e) (fun (e : Nat) => c.uL e) fun (e : Nat) => c.uD e) c.T))) (Int.ofNat 0)) (Int.ofNat 131072)).toNat = ncN (Cf.mk x.W x.L x.C x.T x.D x.H x.B x.A x.P x.nP x.rc x.nU x.cu (fun (e : Nat) => x.lenP e) (fun (e : Nat) => x.FC e) (fun (i e : Nat) => x.iO i e) (fun (i e : Nat) => x.iA i e) (fun (i e : Nat) => x.iB i e) (fun (e : Nat) => x.uP e) (fun (e : Nat) => x.uL e) fun (e : Nat) => x.uD e))
    (V.need (Int.ofNat 0 = Int.ofNat 0)
    (V.need (Int.ofNat 0 = Int.ofNat 0)
    (V.need (Int.ofNat 0 = Int.ofNat 0)
    (V.need (Int.ofNat 0 = Int.ofNat 0)
    (V.need (Int.ofNat 0 = Int.ofNat 0)
    (V.need ((min (max (IntKind.i64.wrap (layN (Cf.mk c.W c.L c.C c.T c.D c.H c.B c.A c.P c.nP c.rc c.nU c.cu (fun (e : Nat) => c.lenP e) (fun (e : Nat) => c.FC e) (fun (i e : Nat) => c.iO i e) (fun (i e : Nat) => c.iA i e) (fun (i e : Nat) => c.iB i e) (fun (e : Nat) => c.uP e) (fun (e : Nat) => c.uL e) fun (e : Nat) => c.uD e) (lT (Cf.mk c.W c.L c.C c.T c.D c.H c.B c.A c.P c.nP c.rc c.nU c.cu (fun (e : Nat) => c.lenP e) (fun (e : Nat) => c.FC e) (fun (i e : Nat) => c.iO i e) (fun (i e : Nat) => c.iA i e) (fun (i e : Nat) => c.iB i e) (fun (e : Nat) => c.uP e) (fun (e : Nat) => c.uL e) fun (e : Nat) => c.uD e)) + IntKind.i64.wrap (Int.ofNat 5 * layN (Cf.mk c.W c.L c.C c.T c.D c.H c.B c.A c.P c.nP c.rc c.nU c.cu (fun (e : Nat) => c.lenP e) (fun (e : Nat) => c.FC e) (fun (i e : Nat) => c.iO i e) (fun (i e : Nat) => c.iA i e) (fun (i e : Nat) => c.iB i e) (fun (e : Nat) => c.uP e) (fun (e : Nat) => c.uL e) fun (e : Nat) => c.uD e) c.T))) (Int.ofNat 0)) (Int.ofNat 131072)).toNat = ncN (Cf.mk x.W x.L x.C x.T x.D x.H x.B x.A x.P x.nP x.rc x.nU x.cu (fun (e : Nat) => x.lenP e) (fun (e : Nat) => x.FC e) (fun (i e : Nat) => x.iO i e) (fun (i e : Nat) => x.iA i e) (fun (i e : Nat) => x.iB i e) (fun (e : Nat) => x.uP e) (fun (e : Nat) => x.uL e) fun (e : Nat) => x.uD e))
    (V.need (ncN (Cf.mk x.W x.L x.C x.T x.D x.H x.B x.A x.P x.nP x.rc x.nU x.cu (fun (e : Nat) => x.lenP e) (fun (e : Nat) => x.FC e) (fun (i e : Nat) => x.iO i e) (fun (i e : Nat) => x.iA i e) (fun (i e : Nat) => x.iB i e) (fun (e : Nat) => x.uP e) (fun (e : Nat) => x.uL e) fun (e : Nat) => x.uD e) ≤ (min (max (IntKind.i64.wrap (layN (Cf.mk c.W c.L c.C c.T c.D c.H c.B c.A c.P c.nP c.rc c.nU c.cu (fun (e : Nat) => c.lenP e) (fun (e : Nat) => c.FC e) (fun (i e : Nat) => c.iO i e) (fun (i e : Nat) => c.iA i e) (fun (i e : Nat) => c.iB i e) (fun (e : Nat) => c.uP e) (fun (e : Nat) => c.uL e) fun (e : Nat) => c.uD e) (lT (Cf.mk c.W c.L c.C c.T c.D c.H c.B c.A c.P c.nP c.rc c.nU c.cu (fun (e : Nat) => c.lenP e) (fun (e : Nat) => c.FC e) (fun (i e : Nat) => c.iO i e) (fun (i e : Nat) => c.iA i e) (fun (i e : Nat) => c.iB i e) (fun (e : Nat) => c.uP e) (fun (e : Nat) => c.uL e) fun (e : Nat) => c.uD e)) + IntKind.i64.wrap (Int.ofNat 5 * layN (Cf.mk c.W c.L c.C c.T c.D c.H c.B c.A c.P c.nP c.rc c.nU c.cu (fun (e : Nat) => c.lenP e) (fun (e : Nat) => c.FC e) (fun (i e : Nat) => c.iO i e) (fun (i e : Nat) => c.iA i e) (fun (i e : Nat) => c.iB i e) (fun (e : Nat) => c.uP e) (fun (e : Nat) => c.uL e) fun (e : Nat) => c.uD e) c.T))) (Int.ofNat 0)) (Int.ofNat 131072)).toNat)
    (V.need (∀ (e : Nat), e < ncN (Cf.mk x.W x.L x.C x.T x.D x.H x.B x.A x.P x.nP x.rc x.nU x.cu (fun (e : Nat) => x.lenP e) (fun (e : Nat) => x.FC e) (fun (i e : Nat) => x.iO i e) (fun (i e : Nat) => x.iA i e) (fun (i e : Nat) => x.iB i e) (fun (e : Nat) => x.uP e) (fun (e : Nat) => x.uL e) fun (e : Nat) => x.uD e) → Int.ofNat 0 = Int.ofNat 0)
    (V.need (Int.ofNat 0 = Int.ofNat 0)
    (V.need (Int.ofNat 0 = Int.ofNat 0)
    (V.need (x_1.snd = x_1.snd)
    (V.need (c.T.toNat ≤ x_1.fst.toNat)
    (V.need (∀ (e : Nat), e < c.T.toNat → Int.ofNat 0 = Int.ofNat 0)
    (V.need (∀ (e : Nat), e < c.T.toNat → -Int.ofNat 1 = -Int.ofNat 1)
    (V.need (∀ (e : Nat), e < c.T.toNat → Int.ofNat 0 = Int.ofNat 0)
    (V.need (∀ (e : Nat), e < c.T.toNat → Int.ofNat 0 = Int.ofNat 0)
    (V.need (∀ (e : Nat), e < c.T.toNat → -Int.ofNat 1 = -Int.ofNat 1)
    (V.need (∀ (e : Nat), e < c.T.toNat → false = false)
    (V.need (x.rc = x.rc)
    (V.need (x.nP ≤ x.nP)
    (V.need (∀ (e : Nat), e < x.nP → e = e)
    (V.need (∀ (e : Nat), e < x.nP → x.lenP e = x.lenP e)
    (V.need (∀ (e : Nat), e < x.nP → x.FC e = x.FC e)
    (V.need (x.cu = x.cu)
    (V.need (x.nU ≤ x.nU)
    (V.need (∀ (e : Nat), e < x.nU → x.uP e = x.uP e)
    (V.need (∀ (e : Nat), e < x.nU → x.uL e = x.uL e)
    (V.need (∀ (e : Nat), e < x.nU → x.uD e = x.uD e)
    (V.need (∀ (i : Nat), gd x.nP x.FC i = gd x.nP (fun (e : Nat) => x.FC e) i ∨ gd x.nP (fun (e : Nat) => x.FC e) i = 0)
    (V.need (∀ (i : Nat), gd x.nP (fun (e : Nat) => x.lenP e) i ≤ gd x.nP (fun (e : Nat) => x.FC e) i ∧ gd x.nP (fun (e : Nat) => x.lenP e) i ≤ gd x.nP x.lenP i)
    (V.need (∀ (i e : Nat), e < gd x.nP (fun (e : Nat) => x.lenP e) i → x.iO i e = x.iO i e)
    (V.need (∀ (i e : Nat), e < gd x.nP (fun (e : Nat) => x.lenP e) i → x.iA i e = x.iA i e)
    (V.need (∀ (i e : Nat), e < gd x.nP (fun (e : Nat) => x.lenP e) i → x.iB i e = x.iB i e) V.ok))))))))))))))))))))))))))))))))))))))))))))))))))))))))))))))))))))))))))))))))))))))))))))))))))))))))))))))))))))))))))))))))))))))))))))))))))))))))))))))))))))))))))))))))))))))))))) := by kernel_rfl

theorem verNewR_eq (c : Cf) : verNewR c =
  V.need (0 < 1 ∧ 0 < 1)
    (V.need (0 < 1 ∧ 0 < 1)
    (V.need (0 < 1 ∧ 0 < 1)
    (V.need (0 < 1 ∧ 0 < 1)
    (V.need (0 < 1 ∧ 0 < 1)
    (V.need (0 < 1 ∧ 0 < 1)
    (V.need (0 < 1 ∧ 0 < 1)
    (V.need (0 < 1 ∧ 0 < 1)
    (V.need (0 < 1 ∧ 0 < 1)
    (V.need (0 < 1 ∧ 0 < 1)
    (V.need (0 < 1 ∧ 0 < 1)
    (V.need (0 < 1 ∧ 0 < 1)
    (V.need (0 < 1 ∧ 0 < 1)
    (V.need (0 < 1 ∧ 0 < 1)
    (V.need (0 < 1 ∧ 0 < 1)
    (V.need (0 < 1 ∧ 0 < 1)
    (V.need (0 < 1 ∧ 0 < 1)
    (V.need (0 < 1 ∧ 0 < 1)
    (V.need (0 < 1 ∧ 0 < 1)
    (V.need (0 < 1 ∧ 0 < 1)
    (V.need (0 < 1 ∧ 0 < 1)
    (V.need (0 < 1 ∧ 0 < 1)
    (V.need (0 < 1 ∧ 0 < 1)
    (V.need (0 < 1 ∧ 0 < 1)
    (V.need (0 < 1 ∧ 0 < 1)
    (V.need (0 < 1 ∧ 0 < 1)
    (V.need (0 < 1 ∧ 0 < 1)
    (V.need (0 < 1 ∧ 0 < 1)
    (V.need (0 < 1 ∧ 0 < 1)
    (V.need (0 < 1 ∧ 0 < 1)
    (V.need (0 < 1 ∧ 0 < 1)
    (V.need (0 < 1 ∧ 0 < 1)
    (V.need (0 < 1 ∧ 0 < 1)
    (V.need (0 < 1 ∧ 0 < 1)
    (V.need (0 < 1 ∧ 0 < 1)
    (V.need (0 < 1 ∧ 0 < 1)
    (V.need (0 < 1 ∧ 0 < 1)
    (V.need (0 < 1 ∧ 0 < 1)
    (V.need (0 < 1 ∧ 0 < 1)
    (V.need (0 < 1 ∧ 0 < 1)
    (V.need (0 < 1 ∧ 0 < 1)
    (V.need (Int.ofNat 0 ≤ max (Int.ofNat 0) (min (IntKind.i64.wrap (IntKind.i64.wrap (IntKind.i64.wrap (IntKind.i64.wrap (IntKind.i64.wrap (Int.ofNat 4 + c.H) + c.C) + IntKind.i64.wrap (Int.ofNat 2 * c.W)) + IntKind.i64.wrap (IntKind.i64.wrap (c.W * c.L) * IntKind.i64.wrap (Int.ofNat 2 + c.D))) + IntKind.i64.wrap (Int.ofNat 5 * c.T))) (Int.ofNat 131072)) ∧ max (Int.ofNat 0) (min (IntKind.i64.wrap (IntKind.i64.wrap (IntKind.i64.wrap (IntKind.i64.wrap (IntKind.i64.wrap (Int.ofNat 4 + c.H) + c.C) + IntKind.i64.wrap (Int.ofNat 2 * c.W)) + IntKind.i64.wrap (IntKind.i64.wrap (c.W * c.L) * IntKind.i64.wrap (Int.ofNat 2 + c.D))) + IntKind.i64.wrap (Int.ofNat 5 * c.T))) (Int.ofNat 131072)) ≤ max (Int.ofNat 0) (min (IntKind.i64.wrap (IntKind.i64.wrap (IntKind.i64.wrap (IntKind.i64.wrap (IntKind.i64.wrap (Int.ofNat 4 + c.H) + c.C) + IntKind.i64.wrap (Int.ofNat 2 * c.W)) + IntKind.i64.wrap (IntKind.i64.wrap (c.W * c.L) * IntKind.i64.wrap (Int.ofNat 2 + c.D))) + IntKind.i64.wrap (Int.ofNat 5 * c.T))) (Int.ofNat 131072)) ∧ (↑8 : Int) * max (Int.ofNat 0) (min (IntKind.i64.wrap (IntKind.i64.wrap (IntKind.i64.wrap (IntKind.i64.wrap (IntKind.i64.wrap (Int.ofNat 4 + c.H) + c.C) + IntKind.i64.wrap (Int.ofNat 2 * c.W)) + IntKind.i64.wrap (IntKind.i64.wrap (c.W * c.L) * IntKind.i64.wrap (Int.ofNat 2 + c.D))) + IntKind.i64.wrap (Int.ofNat 5 * c.T))) (Int.ofNat 131072)) ≤ Int.ofNat 281474976710656 ∧ max (Int.ofNat 0) (min (IntKind.i64.wrap (IntKind.i64.wrap (IntKind.i64.wrap (IntKind.i64.wrap (IntKind.i64.wrap (Int.ofNat 4 + c.H) + c.C) + IntKind.i64.wrap (Int.ofNat 2 * c.W)) + IntKind.i64.wrap (IntKind.i64.wrap (c.W * c.L) * IntKind.i64.wrap (Int.ofNat 2 + c.D))) + IntKind.i64.wrap (Int.ofNat 5 * c.T))) (Int.ofNat 131072)) ≤ Int.ofNat 9223372036854775807)
    (V.need (Int.ofNat 0 ≤ Int.ofNat 0 ∧ Int.ofNat 0 ≤ c.T ∧ 0 ≤ 0)
    (V.need (Int.ofNat 0 = Int.ofNat 0)
    (V.need (c.W = c.W)
    (V.need (c.L = c.L)
    (V.need (c.C = c.C)
    (V.need (c.T = c.T)
    (V.need (c.D = c.D)
    (V.need (c.H = c.H)
    (V.need (c.B = c.B)
    (V.need (c.A = c.A)
    (V.need (c.P = c.P)
    (V.need (c.nP = c.nP)
    (V.need (c.rc = c.rc)
    (V.need (c.nU = c.nU)
    (V.need (c.cu = c.cu)
    (V.need ((max (Int.ofNat 0) (min (IntKind.i64.wrap (IntKind.i64.wrap (IntKind.i64.wrap (IntKind.i64.wrap (IntKind.i64.wrap (Int.ofNat 4 + c.H) + c.C) + IntKind.i64.wrap (Int.ofNat 2 * c.W)) + IntKind.i64.wrap (IntKind.i64.wrap (c.W * c.L) * IntKind.i64.wrap (Int.ofNat 2 + c.D))) + IntKind.i64.wrap (Int.ofNat 5 * c.T))) (Int.ofNat 131072))).toNat = (max (Int.ofNat 0) (min (IntKind.i64.wrap (IntKind.i64.wrap (IntKind.i64.wrap (IntKind.i64.wrap (IntKind.i64.wrap (Int.ofNat 4 + c.H) + c.C) + IntKind.i64.wrap (Int.ofNat 2 * c.W)) + IntKind.i64.wrap (IntKind.i64.wrap (c.W * c.L) * IntKind.i64.wrap (Int.ofNat 2 + c.D))) + IntKind.i64.wrap (Int.ofNat 5 * c.T))) (Int.ofNat 131072))).toNat)
    (V.need ((max (Int.ofNat 0) (min (IntKind.i64.wrap (IntKind.i64.wrap (IntKind.i64.wrap (IntKind.i64.wrap (IntKind.i64.wrap (Int.ofNat 4 + c.H) + c.C) + IntKind.i64.wrap (Int.ofNat 2 * c.W)) + IntKind.i64.wrap (IntKind.i64.wrap (c.W * c.L) * IntKind.i64.wrap (Int.ofNat 2 + c.D))) + IntKind.i64.wrap (Int.ofNat 5 * c.T))) (Int.ofNat 131072))).toNat = (max (Int.ofNat 0) (min (IntKind.i64.wrap (IntKind.i64.wrap (IntKind.i64.wrap (IntKind.i64.wrap (IntKind.i64.wrap (Int.ofNat 4 + c.H) + c.C) + IntKind.i64.wrap (Int.ofNat 2 * c.W)) + IntKind.i64.wrap (IntKind.i64.wrap (c.W * c.L) * IntKind.i64.wrap (Int.ofNat 2 + c.D))) + IntKind.i64.wrap (Int.ofNat 5 * c.T))) (Int.ofNat 131072))).toNat)
    (V.need (0 = 0)
    (V.need (0 = 0)
    (V.need (0 = 0)
    (V.need (0 ≤ 0)
    (V.need (∀ (e : Nat), e < 0 → Int.ofNat 0 = Int.ofNat 0)
    (V.need (∀ (e : Nat), e < 0 → -Int.ofNat 1 = -Int.ofNat 1)
    (V.need (∀ (e : Nat), e < 0 → Int.ofNat 0 = Int.ofNat 0)
    (V.need (∀ (e : Nat), e < 0 → Int.ofNat 0 = Int.ofNat 0)
    (V.need (∀ (e : Nat), e < 0 → -Int.ofNat 1 = -Int.ofNat 1)
    (V.need (∀ (e : Nat), e < 0 → false = false)
    (V.any (Int × Nat) (fun (x : Int × Nat) => Int.ofNat 0 ≤ x.fst ∧ x.fst ≤ c.T ∧ x.fst.toNat ≤ x.snd) fun (x : Int × Nat) => V.need (0 < 1 ∧ 0 < 1)
    (V.need (0 < 1 ∧ 0 < 1)
    (V.br (decide (x.fst < c.T))
    (V.need (0 < 1 ∧ 0 < 1)
    (V.need (0 < 1 ∧ 0 < 1)
    (V.need (0 < 1 ∧ 0 < 1)
    (V.need (0 < 1 ∧ 0 < 1)
    (V.need (0 < 1 ∧ 0 < 1)
    (V.need (0 < 1 ∧ 0 < 1)
    (V.need (0 < 1 ∧ 0 < 1)
    (V.need (0 < 1 ∧ 0 < 1)
    (V.need (0 < 1 ∧ 0 < 1)
    (V.need (0 < 1 ∧ 0 < 1)
    (V.need (x.fst.toNat ≤ x.fst.toNat ∧ x.snd = x.snd)
    (V.need (x.fst.toNat + 1 ≤ 9223372036854775807 ∧ (x.fst.toNat + 1) * 72 ≤ 140737488355328)
    (V.any Nat (fun (x_1 : Nat) => x.fst.toNat + 1 ≤ x_1) fun (x_1 : Nat) => V.need (0 < 1 ∧ 0 < 1)
    (V.need (0 < 1 ∧ 0 < 1)
    (V.need (Int.ofNat 0 ≤ IntKind.i64.wrap (x.fst + Int.ofNat 1) ∧ IntKind.i64.wrap (x.fst + Int.ofNat 1) ≤ c.T ∧ (IntKind.i64.wrap (x.fst + Int.ofNat 1)).toNat ≤ x_1)
    (V.need ((c.T - IntKind.i64.wrap (x.fst + Int.ofNat 1)).toNat < (c.T - x.fst).toNat)
    (V.need (IntKind.i64.wrap (x.fst + Int.ofNat 1) = IntKind.i64.wrap (x.fst + Int.ofNat 1))
    (V.need (c.W = c.W)
    (V.need (c.L = c.L)
    (V.need (c.C = c.C)
    (V.need (c.T = c.T)
    (V.need (c.D = c.D)
    (V.need (c.H = c.H)
    (V.need (c.B = c.B)
    (V.need (c.A = c.A)
    (V.need (c.P = c.P)
    (V.need (c.nP = c.nP)
    (V.need (c.rc = c.rc)
    (V.need (c.nU = c.nU)
    (V.need (c.cu = c.cu)
    (V.need ((max (Int.ofNat 0) (min (IntKind.i64.wrap (IntKind.i64.wrap (IntKind.i64.wrap (IntKind.i64.wrap (IntKind.i64.wrap (Int.ofNat 4 + c.H) + c.C) + IntKind.i64.wrap (Int.ofNat 2 * c.W)) + IntKind.i64.wrap (IntKind.i64.wrap (c.W * c.L) * IntKind.i64.wrap (Int.ofNat 2 + c.D))) + IntKind.i64.wrap (Int.ofNat 5 * c.T))) (Int.ofNat 131072))).toNat = (max (Int.ofNat 0) (min (IntKind.i64.wrap (IntKind.i64.wrap (IntKind.i64.wrap (IntKind.i64.wrap (IntKind.i64.wrap (Int.ofNat 4 + c.H) + c.C) + IntKind.i64.wrap (Int.ofNat 2 * c.W)) + IntKind.i64.wrap (IntKind.i64.wrap (c.W * c.L) * IntKind.i64.wrap (Int.ofNat 2 + c.D))) + IntKind.i64.wrap (Int.ofNat 5 * c.T))) (Int.ofNat 131072))).toNat)
    (V.need ((max (Int.ofNat 0) (min (IntKind.i64.wrap (IntKind.i64.wrap (IntKind.i64.wrap (IntKind.i64.wrap (IntKind.i64.wrap (Int.ofNat 4 + c.H) + c.C) + IntKind.i64.wrap (Int.ofNat 2 * c.W)) + IntKind.i64.wrap (IntKind.i64.wrap (c.W * c.L) * IntKind.i64.wrap (Int.ofNat 2 + c.D))) + IntKind.i64.wrap (Int.ofNat 5 * c.T))) (Int.ofNat 131072))).toNat = (max (Int.ofNat 0) (min (IntKind.i64.wrap (IntKind.i64.wrap (IntKind.i64.wrap (IntKind.i64.wrap (IntKind.i64.wrap (Int.ofNat 4 + c.H) + c.C) + IntKind.i64.wrap (Int.ofNat 2 * c.W)) + IntKind.i64.wrap (IntKind.i64.wrap (c.W * c.L) * IntKind.i64.wrap (Int.ofNat 2 + c.D))) + IntKind.i64.wrap (Int.ofNat 5 * c.T))) (Int.ofNat 131072))).toNat)
    (V.need (x.fst.toNat + 1 = (IntKind.i64.wrap (x.fst + Int.ofNat 1)).toNat)
    (V.need (x_1 = x_1)
    (V.need (x_1 = x_1)
    (V.need ((IntKind.i64.wrap (x.fst + Int.ofNat 1)).toNat ≤ x.fst.toNat + 1)
    (V.need (∀ (e : Nat), e < (IntKind.i64.wrap (x.fst + Int.ofNat 1)).toNat → (if 0 = 0 ∧ e = x.fst.toNat then Int.ofNat 0 else Int.ofNat 0) = Int.ofNat 0)
    (V.need (∀ (e : Nat), e < (IntKind.i64.wrap (x.fst + Int.ofNat 1)).toNat → (if 0 = 0 ∧ e = x.fst.toNat then Int.negSucc 0 else -Int.ofNat 1) = -Int.ofNat 1)
    (V.need (∀ (e : Nat), e < (IntKind.i64.wrap (x.fst + Int.ofNat 1)).toNat → (if 0 = 0 ∧ e = x.fst.toNat then Int.ofNat 0 else Int.ofNat 0) = Int.ofNat 0)
    (V.need (∀ (e : Nat), e < (IntKind.i64.wrap (x.fst + Int.ofNat 1)).toNat → (if 0 = 0 ∧ e = x.fst.toNat then Int.ofNat 0 else Int.ofNat 0) = Int.ofNat 0)
    (V.need (∀ (e : Nat), e < (IntKind.i64.wrap (x.fst + Int.ofNat 1)).toNat → (if 0 = 0 ∧ e = x.fst.toNat then Int.negSucc 0 else -Int.ofNat 1) = -Int.ofNat 1)
    (V.need (∀ (e : Nat), e < (IntKind.i64.wrap (x.fst + Int.ofNat 1)).toNat → (if 0 = 0 ∧ e = x.fst.toNat then false else false) = false) V.ok))))))))))))))))))))))))))))))))))))))))))
    (V.need (c.T.toNat ≤ x.snd)
    (V.need (c.W = c.W)
    (V.need (c.L = c.L)
    (V.need (c.C = c.C)
    (V.need (c.T = c.T)
    (V.need (c.D = c.D)
    (V.need (c.H = c.H)
    (V.need (c.B = c.B)
    (V.need (c.A = c.A)
    (V.need (c.P = c.P)
    (V.need (c.nP = c.nP)
    (V.need (c.rc = c.rc)
    (V.need (c.nU = c.nU)
    (V.need (c.cu = c.cu)
    (V.need ((max (Int.ofNat 0) (min (IntKind.i64.wrap (IntKind.i64.wrap (IntKind.i64.wrap (IntKind.i64.wrap (IntKind.i64.wrap (Int.ofNat 4 + c.H) + c.C) + IntKind.i64.wrap (Int.ofNat 2 * c.W)) + IntKind.i64.wrap (IntKind.i64.wrap (c.W * c.L) * IntKind.i64.wrap (Int.ofNat 2 + c.D))) + IntKind.i64.wrap (Int.ofNat 5 * c.T))) (Int.ofNat 131072))).toNat = ncN c)
    (V.need ((max (Int.ofNat 0) (min (IntKind.i64.wrap (IntKind.i64.wrap (IntKind.i64.wrap (IntKind.i64.wrap (IntKind.i64.wrap (Int.ofNat 4 + c.H) + c.C) + IntKind.i64.wrap (Int.ofNat 2 * c.W)) + IntKind.i64.wrap (IntKind.i64.wrap (c.W * c.L) * IntKind.i64.wrap (Int.ofNat 2 + c.D))) + IntKind.i64.wrap (Int.ofNat 5 * c.T))) (Int.ofNat 131072))).toNat = ncN c)
    (V.need (Int.ofNat 0 = Int.ofNat 0)
    (V.need (Int.ofNat 0 = Int.ofNat 0)
    (V.need (Int.ofNat 0 = Int.ofNat 0)
    (V.need (Int.ofNat 0 = Int.ofNat 0)
    (V.need (Int.ofNat 0 = Int.ofNat 0)
    (V.need (Int.ofNat 0 = Int.ofNat 0)
    (V.need (Int.ofNat 0 = Int.ofNat 0)
    (V.need (x.fst.toNat = c.T.toNat)
    (V.need (x.snd = x.snd)
    (V.need ((max (Int.ofNat 0) (min (IntKind.i64.wrap (IntKind.i64.wrap (IntKind.i64.wrap (IntKind.i64.wrap (IntKind.i64.wrap (Int.ofNat 4 + c.H) + c.C) + IntKind.i64.wrap (Int.ofNat 2 * c.W)) + IntKind.i64.wrap (IntKind.i64.wrap (c.W * c.L) * IntKind.i64.wrap (Int.ofNat 2 + c.D))) + IntKind.i64.wrap (Int.ofNat 5 * c.T))) (Int.ofNat 131072))).toNat = ncN c)
    (V.need (ncN c ≤ (max (Int.ofNat 0) (min (IntKind.i64.wrap (IntKind.i64.wrap (IntKind.i64.wrap (IntKind.i64.wrap (IntKind.i64.wrap (Int.ofNat 4 + c.H) + c.C) + IntKind.i64.wrap (Int.ofNat 2 * c.W)) + IntKind.i64.wrap (IntKind.i64.wrap (c.W * c.L) * IntKind.i64.wrap (Int.ofNat 2 + c.D))) + IntKind.i64.wrap (Int.ofNat 5 * c.T))) (Int.ofNat 131072))).toNat)
    (V.need (∀ (e : Nat), e < ncN c → Int.ofNat 0 = Int.ofNat 0)
    (V.need (x.snd = x.snd)
    (V.need (c.T.toNat ≤ x.fst.toNat)
    (V.need (∀ (e : Nat), e < c.T.toNat → Int.ofNat 0 = Int.ofNat 0)
    (V.need (∀ (e : Nat), e < c.T.toNat → -Int.ofNat 1 = -Int.ofNat 1)
    (V.need (∀ (e : Nat), e < c.T.toNat → Int.ofNat 0 = Int.ofNat 0)
    (V.need (∀ (e : Nat), e < c.T.toNat → Int.ofNat 0 = Int.ofNat 0)
    (V.need (∀ (e : Nat), e < c.T.toNat → -Int.ofNat 1 = -Int.ofNat 1)
    (V.need (∀ (e : Nat), e < c.T.toNat → false = false) V.ok))))))))))))))))))))))))))))))))))))))))))))))))))))))))))))))))))))))))))))))))))))))))))))))))))))))))))) := by kernel_rfl


end Go.Proofs.Ytjpnpaboahbncaa.Vc


/- machine.New and the reference's New: the contracts. -/
set_option linter.unusedVariables false
set_option linter.unusedSimpArgs false
set_option maxRecDepth 100000
namespace Go.Proofs.Ytjpnpaboahbncaa.Vc
open Go Go.RowKit Sx Cn Dc Ck
theorem nc_bd {c : Cf} (h : okY c) : 0 ≤ ncI c ∧ ncI c ≤ 131072 := by
  have W := (wy h).t
  obtain ⟨h1, h2, h3, h4, h5, h6⟩ := h
  unfold ncI
  omega
theorem okC_preE {c : Cf} (h : errE c = 0) : preE c := by
  obtain ⟨g1, g2, g3⟩ := (err_zero c).1 h
  exact ⟨⟨by have := g2.1; omega, fun i hi => by have := (g2.2 i hi).1; omega⟩, by have := g3.1; omega⟩
theorem wnc1 {c : Cf} (h : okY c) : IntKind.i64.wrap (5 * c.T) = 5 * c.T := w64 (by have := h.2.2.2.1; omega)
theorem wnc2 {c : Cf} (h : okY c) : IntKind.i64.wrap (lT c + 5 * c.T) = ncI c := w64 (by have := nc_bd h; unfold ncI at this; omega)
theorem wnc3 {c : Cf} (h : okY c) : max 0 (min (ncI c) 131072) = ncI c := by have := nc_bd h; omega
theorem wnc4 {c : Cf} (h : okY c) : min (max (ncI c) 0) 131072 = ncI c := by have := nc_bd h; omega
set_option maxHeartbeats 4000000 in
theorem vhNewR {c : Cf} (h : okY c) : VHolds (verNewR c) := by
  constructor
  rw [verNewR_eq]
  have W := wy h
  have hn := nc_bd h
  have e1 := wnc1 h
  have e2 := wnc2 h
  have e3 := wnc3 h
  have hT := h.2.2.2.1
  have e4 : (ncI c).toNat = ncN c := rfl
  simp only [V.holds, Int.ofNat_eq_natCast, decide_eq_true_eq, decide_eq_false_iff_not, Bool.not_eq_true', Bool.not_eq_false', bne_iff_ne, bne_eq_false_iff_eq, beq_iff_eq, beq_eq_false_iff_ne, ne_eq, true_and, and_true, forall_const, true_implies, implies_true, Nat.zero_add, Nat.sub_zero, Nat.lt_add_one, Nat.zero_lt_one, Int.natCast_zero, Int.natCast_one, Int.cast_ofNat_Int, gt_iff_lt, ge_iff_le, and_self, eq_self, Nat.le_refl, if_true, Int.toNat_zero, ite_self, W.w3, W.w4, W.w1, W.w2, W.w5, W.w6, W.w7, W.w8, W.w10, W.w11, e1, e2, e3, e4]
  repeat' first
    | exact True.intro
    | with_reducible apply And.intro
    | (refine Prod.forall.2 fun xi F => ?_
       intro hx
       simp only at hx ⊢
       obtain ⟨i, rfl⟩ := Int.eq_ofNat_of_zero_le hx.1
       simp only [Int.toNat_natCast] at hx ⊢
       obtain ⟨hx0, hx1, hx2⟩ := hx)
    | intro _
  all_goals try simp (disch := omega) only [wnat, Int.toNat_natCast]
  all_goals first
    | omega
    | rfl
    | exact ⟨_, Nat.le_refl _⟩
    | (split <;> rfl)
theorem is_cl (c : Cf) : IsCl c (clOf c (fun e => c.lenP e) c.nP c.nU) := ⟨_, _, _, ⟨fun _ _ => Nat.le_refl _, Nat.le_refl _, Nat.le_refl _⟩, rfl⟩
theorem gd_le {n : Nat} {f g : Nat → Nat} (h : ∀ j, j < n → f j ≤ g j) (i : Nat) : gd n f i ≤ gd n g i := by
  unfold gd
  split
  · exact h i ‹_›
  · exact Nat.le_refl _
set_option maxHeartbeats 4000000 in
theorem vhNewM (c : Cf) (_ : True) : VHolds (verNewM c) := by
  constructor
  rw [verNewM_eq]
  by_cases h0 : errE c = 0
  · have h := okY_of h0
    have hp := okC_preE h0
    have W := wy h
    have hn := nc_bd h
    have e1 := wnc1 h
    have e2 := wnc2 h
    have e3 := wnc4 h
    have hT := h.2.2.2.1
    have e4 : (ncI c).toNat = ncN c := rfl
    simp only [V.holds, cf_eta, h0, layN, Int.ofNat_eq_natCast, decide_eq_true_eq, decide_eq_false_iff_not, Bool.not_eq_true', Bool.not_eq_false', bne_iff_ne, bne_eq_false_iff_eq, beq_iff_eq, beq_eq_false_iff_ne, ne_eq, true_and, and_true, forall_const, true_implies, implies_true, Nat.zero_add, Nat.sub_zero, Nat.lt_add_one, Nat.zero_lt_one, Int.natCast_zero, Int.natCast_one, Int.cast_ofNat_Int, gt_iff_lt, ge_iff_le, and_self, eq_self, Nat.le_refl, if_true, Int.toNat_zero, ite_self, not_true_eq_false, false_implies, W.w3, W.w4, W.w1, W.w2, W.w5, W.w6, W.w7, W.w8, W.w10, W.w11, e1, e2, e3, e4]
    repeat' first
      | exact True.intro
      | with_reducible apply And.intro
      | (refine Prod.forall.2 fun xi F => ?_
         intro hx
         simp only at hx ⊢
         obtain ⟨i, rfl⟩ := Int.eq_ofNat_of_zero_le hx.1
         simp only [Int.toNat_natCast] at hx ⊢
         obtain ⟨hx0, hx1, hx2⟩ := hx)
      | (intro (hd : IsCl c _); obtain ⟨F', x', z', hb, rfl⟩ := hd)
      | intro _
    all_goals try simp (disch := omega) only [wnat, Int.toNat_natCast]
    all_goals first
      | omega
      | rfl
      | exact hp
      | exact ⟨_, is_cl c⟩
      | assumption
      | exact .inl trivial
      | exact gd_le (fun j hj => hb.1 j hj) _
      | exact ⟨_, _, _, hb, rfl⟩
      | exact Nat.le_of_eq rfl
      | (split <;> rfl)
  · simp only [V.holds, cf_eta, h0, layN, Int.ofNat_eq_natCast, decide_eq_true_eq, decide_eq_false_iff_not, Bool.not_eq_true', Bool.not_eq_false', bne_iff_ne, bne_eq_false_iff_eq, beq_iff_eq, beq_eq_false_iff_ne, ne_eq, true_and, and_true, forall_const, true_implies, implies_true, Nat.zero_add, Nat.sub_zero, Nat.lt_add_one, Nat.zero_lt_one, Int.natCast_zero, Int.natCast_one, Int.cast_ofNat_Int, gt_iff_lt, ge_iff_le, and_self, eq_self, Nat.le_refl, if_true, Int.toNat_zero, ite_self, not_true_eq_false, not_false_eq_true, false_implies, if_false]
noncomputable section
def conNewM : List SV → Hp → Out (SV × Hp) := conCfP fun c => .need True (psNewM c).out
theorem conNewM_ok : ContractOK P 61 conNewM := conCfP_ok fun c => local_of_ps conNM_ok (vhNewM c)
def conNewR : List SV → Hp → Out (SV × Hp) := conCfP fun c => .need (okY c) (psNewR c).out
theorem conNewR_ok : ContractOK P 63 conNewR := conCfP_ok fun c => local_of_ps ConOK.nil fun h => vhNewR h
end
end Go.Proofs.Ytjpnpaboahbncaa.Vc


/- MachineEnvs: the law, what is asked. -/
set_option linter.unusedVariables false
set_option linter.unusedSimpArgs false
set_option maxRecDepth 100000
namespace Go.Proofs.Ytjpnpaboahbncaa.Vc
open Go Go.RowKit Sx Cn Dc Ck
noncomputable section
def conEnv : Con := Con.add 19 conAwake8 (Con.add 61 conNewM (Con.add 63 conNewR (Con.add 105 conEqW (Con.add 130 conFresh (Con.add 60 conEq (Con.add 56 conDec (Con.add 44 conErr con7)))))))
theorem conEnv_ok : ConOK P conEnv := .add conAwake8_ok (.add conNewM_ok (.add conNewR_ok (.add conEqW_ok (.add conFresh_ok (.add conEqR_ok (.add conDec_ok (.add conErr44 con7_ok)))))))
def verEnvs (g : Nat → Int) (len cap : Nat) (c : Cf) (n : Int) : V := verF P conEnv 3 6 13 [] .nil [.c (slK 0 1 len cap), argCm 1 c, iv n] ⟨[(0, ints .u8 len g)] ++ hCm 1 c, 4, fun _ => True⟩ yesV
end
end Go.Proofs.Ytjpnpaboahbncaa.Vc


/- MachineEnvs: the law: the conditions, printed by program. -/
set_option linter.unusedVariables false
set_option maxRecDepth 100000
namespace Go.Proofs.Ytjpnpaboahbncaa.Vc
open Go Go.RowKit Sx Cn Dc Ck

set_option maxHeartbeats 8000000 in
theorem verEnvs_eq (g : Nat → Int) (len cap : Nat) (c : Cf) (n : Int) : verEnvs g len cap c n =
  V.br (!decide ((↑len : Int) ≤ Int.ofNat 400)) V.ok
    (V.br (decide ((↑c.nP : Int) > Int.ofNat 50)) V.ok
    (V.br (decide ((↑c.nU : Int) > Int.ofNat 100)) V.ok
    (V.need (len = len)
    (V.need (cap = cap)
    (V.need (1 ≤ 1)
    (V.need (∀ (i : Nat), i < 1 → len ≤ len)
    (V.need (∀ (i e : Nat), i < 1 ∧ e < len → g e = g e)
    (V.need (U8 len fun (e : Nat) => g e)
    (V.need (∃ (x : Cf), IsDec (fun (e : Nat) => g e) len x)
    (V.any Cf (IsDec (fun (e : Nat) => g e) len) fun (x : Cf) => V.need (x.W = x.W)
    (V.need (x.L = x.L)
    (V.need (x.C = x.C)
    (V.need (x.T = x.T)
    (V.need (x.D = x.D)
    (V.need (x.H = x.H)
    (V.need (x.B = x.B)
    (V.need (x.A = x.A)
    (V.need (x.P = x.P)
    (V.need (x.nP = x.nP)
    (V.need (x.rc = x.rc)
    (V.need (x.nU = x.nU)
    (V.need (x.cu = x.cu)
    (V.need (1 ≤ 1)
    (V.need (x.nP ≤ x.nP ∧ x.nP ≤ x.rc)
    (V.need (∀ (i e : Nat), i = 0 ∧ e < x.nP → e = e)
    (V.need (∀ (i e : Nat), i = 0 ∧ e < x.nP → x.lenP e = x.lenP e)
    (V.need (∀ (i e : Nat), i = 0 ∧ e < x.nP → x.FC e = x.FC e)
    (V.need (1 ≤ 1)
    (V.need (x.nU ≤ x.nU ∧ x.nU ≤ x.cu)
    (V.need (∀ (i e : Nat), i = 0 ∧ e < x.nU → x.uP e = x.uP e)
    (V.need (∀ (i e : Nat), i = 0 ∧ e < x.nU → x.uL e = x.uL e)
    (V.need (∀ (i e : Nat), i = 0 ∧ e < x.nU → x.uD e = x.uD e)
    (V.need (∀ (i : Nat), i < x.nP → x.lenP i ≤ gd x.nP x.lenP i ∧ x.lenP i ≤ gd x.nP x.FC i)
    (V.need (∀ (i e : Nat), i < x.nP ∧ e < x.lenP i → x.iO i e = x.iO i e)
    (V.need (∀ (i e : Nat), i < x.nP ∧ e < x.lenP i → x.iA i e = x.iA i e)
    (V.need (∀ (i e : Nat), i < x.nP ∧ e < x.lenP i → x.iB i e = x.iB i e)
    (V.need True
    (V.br (decide (errE (Cf.mk x.W x.L x.C x.T x.D x.H x.B x.A x.P x.nP x.rc x.nU x.cu (fun (e : Nat) => x.lenP e) (fun (e : Nat) => x.FC e) (fun (i e : Nat) => x.iO i e) (fun (i e : Nat) => x.iA i e) (fun (i e : Nat) => x.iB i e) (fun (e : Nat) => x.uP e) (fun (e : Nat) => x.uL e) fun (e : Nat) => x.uD e) = Int.ofNat 0))
    (V.need (∃ (x_1 : Cf × Nat), IsCl (Cf.mk x.W x.L x.C x.T x.D x.H x.B x.A x.P x.nP x.rc x.nU x.cu (fun (e : Nat) => x.lenP e) (fun (e : Nat) => x.FC e) (fun (i e : Nat) => x.iO i e) (fun (i e : Nat) => x.iA i e) (fun (i e : Nat) => x.iB i e) (fun (e : Nat) => x.uP e) (fun (e : Nat) => x.uL e) fun (e : Nat) => x.uD e) x_1.fst ∧ x.T.toNat ≤ x_1.snd)
    (V.any (Cf × Nat) (fun (x_1 : Cf × Nat) => IsCl (Cf.mk x.W x.L x.C x.T x.D x.H x.B x.A x.P x.nP x.rc x.nU x.cu (fun (e : Nat) => x.lenP e) (fun (e : Nat) => x.FC e) (fun (i e : Nat) => x.iO i e) (fun (i e : Nat) => x.iA i e) (fun (i e : Nat) => x.iB i e) (fun (e : Nat) => x.uP e) (fun (e : Nat) => x.uL e) fun (e : Nat) => x.uD e) x_1.fst ∧ x.T.toNat ≤ x_1.snd) fun (x_1 : Cf × Nat) => V.need True
    (V.br false
    (V.bad 420)
    (V.need (0 < 1 ∧ 0 < 1)
    (V.need (0 < 1 ∧ 0 < 1)
    (V.need (0 < 1 ∧ 0 < 1)
    (V.need (0 < 1 ∧ 0 < 1)
    (V.need (0 < 1 ∧ 0 < 1)
    (V.need (0 < 1 ∧ 0 < 1)
    (V.need (0 < 1 ∧ 0 < 1)
    (V.need (0 < 1 ∧ 0 < 1)
    (V.need (0 < 1 ∧ 0 < 1)
    (V.need (0 < 1 ∧ 0 < 1)
    (V.need (0 < 1 ∧ 0 < 1)
    (V.need (0 < 1 ∧ 0 < 1)
    (V.need (0 < 1 ∧ 0 < 1)
    (V.need (0 < 1 ∧ 0 < 1)
    (V.need (0 < 1 ∧ 0 < 1)
    (V.need (0 < 1 ∧ 0 < 1)
    (V.need (0 < 1 ∧ 0 < 1)
    (V.need (0 < 1 ∧ 0 < 1)
    (V.need (0 < 1 ∧ 0 < 1)
    (V.need (0 < 1 ∧ 0 < 1)
    (V.need (x.W = x.W)
    (V.need (x.L = x.L)
    (V.need (x.C = x.C)
    (V.need (x.T = x.T)
    (V.need (x.D = x.D)
    (V.need (x.H = x.H)
    (V.need (x.B = x.B)
    (V.need (x.A = x.A)
    (V.need (x.P = x.P)
    (V.need (x.nP = x.nP)
    (V.need (x.rc = x.rc)
    (V.need (x.nU = x.nU)
    (V.need (x.cu = x.cu)
    (V.need (1 ≤ 1)
    (V.need (x.nP ≤ x.nP ∧ x.nP ≤ x.rc)
    (V.need (∀ (i e : Nat), i = 0 ∧ e < x.nP → e = e)
    (V.need (∀ (i e : Nat), i = 0 ∧ e < x.nP → x.lenP e = x.lenP e)
    (V.need (∀ (i e : Nat), i = 0 ∧ e < x.nP → x.FC e = x.FC e)
    (V.need (1 ≤ 1)
    (V.need (x.nU ≤ x.nU ∧ x.nU ≤ x.cu)
    (V.need (∀ (i e : Nat), i = 0 ∧ e < x.nU → x.uP e = x.uP e)
    (V.need (∀ (i e : Nat), i = 0 ∧ e < x.nU → x.uL e = x.uL e)
    (V.need (∀ (i e : Nat), i = 0 ∧ e < x.nU → x.uD e = x.uD e)
    (V.need (∀ (i : Nat), i < x.nP → x.lenP i ≤ gd x.nP x.lenP i ∧ x.lenP i ≤ gd x.nP x.FC i)
    (V.need (∀ (i e : Nat), i < x.nP ∧ e < x.lenP i → x.iO i e = x.iO i e)
    (V.need (∀ (i e : Nat), i < x.nP ∧ e < x.lenP i → x.iA i e = x.iA i e)
    (V.need (∀ (i e : Nat), i < x.nP ∧ e < x.lenP i → x.iB i e = x.iB i e)
    (V.need (okY (Cf.mk x.W x.L x.C x.T x.D x.H x.B x.A x.P x.nP x.rc x.nU x.cu (fun (e : Nat) => x.lenP e) (fun (e : Nat) => x.FC e) (fun (i e : Nat) => x.iO i e) (fun (i e : Nat) => x.iA i e) (fun (i e : Nat) => x.iB i e) (fun (e : Nat) => x.uP e) (fun (e : Nat) => x.uL e) fun (e : Nat) => x.uD e))
    (V.need (∃ (x_2 : Nat), x.T.toNat ≤ x_2)
    (V.any Nat (fun (x_2 : Nat) => x.T.toNat ≤ x_2) fun (x_2 : Nat) => V.need (0 < 1 ∧ 0 < 1)
    (V.need (0 < 1 ∧ 0 < 1)
    (V.need (0 < 1 ∧ 0 < 1)
    (V.need (0 < 1 ∧ 0 < 1)
    (V.need (0 < 1 ∧ 0 < 1)
    (V.need (0 < 1 ∧ 0 < 1)
    (V.need (∃ (x : Bool), x = true → ¬(0 < 1 ∧ 0 < ncN x_1.fst))
    (V.any Bool (fun (b : Bool) => b = true → ¬(0 < 1 ∧ 0 < ncN x_1.fst)) fun (x_3 : Bool) => V.br x_3
    (V.need (0 < 1 ∧ 0 < 1)
    (V.need (0 < 1 ∧ 0 < 1)
    (V.need (0 < 1 ∧ 0 < 1)
    (V.need (0 < 1 ∧ 0 < 1)
    (V.bad 431)))))
    (V.need (0 + ncN x_1.fst ≤ ncN x_1.fst)
    (V.need (0 = 0)
    (V.need (0 + ncN x_1.fst ≤ 9223372036854775807 ∧ (0 + ncN x_1.fst) * 8 ≤ 140737488355328)
    (V.any Nat (fun (x : Nat) => 0 + ncN x_1.fst ≤ x) fun (x_4 : Nat) => V.need (0 < 1 ∧ 0 < 1)
    (V.need (0 < 1 ∧ 0 < 1)
    (V.need (0 < 1 ∧ 0 < 1)
    (V.need (0 < 1 ∧ 0 < 1)
    (V.need (0 + ncN x_1.fst = 0 + ncN x_1.fst)
    (V.need (x_4 = x_4)
    (V.need (ncN (Cf.mk x.W x.L x.C x.T x.D x.H x.B x.A x.P x.nP x.rc x.nU x.cu (fun (e : Nat) => x.lenP e) (fun (e : Nat) => x.FC e) (fun (i e : Nat) => x.iO i e) (fun (i e : Nat) => x.iA i e) (fun (i e : Nat) => x.iB i e) (fun (e : Nat) => x.uP e) (fun (e : Nat) => x.uL e) fun (e : Nat) => x.uD e) = ncN (Cf.mk x.W x.L x.C x.T x.D x.H x.B x.A x.P x.nP x.rc x.nU x.cu (fun (e : Nat) => x.lenP e) (fun (e : Nat) => x.FC e) (fun (i e : Nat) => x.iO i e) (fun (i e : Nat) => x.iA i e) (fun (i e : Nat) => x.iB i e) (fun (e : Nat) => x.uP e) (fun (e : Nat) => x.uL e) fun (e : Nat) => x.uD e))
    (V.need (ncN (Cf.mk x.W x.L x.C x.T x.D x.H x.B x.A x.P x.nP x.rc x.nU x.cu (fun (e : Nat) => x.lenP e) (fun (e : Nat) => x.FC e) (fun (i e : Nat) => x.iO i e) (fun (i e : Nat) => x.iA i e) (fun (i e : Nat) => x.iB i e) (fun (e : Nat) => x.uP e) (fun (e : Nat) => x.uL e) fun (e : Nat) => x.uD e) = ncN (Cf.mk x.W x.L x.C x.T x.D x.H x.B x.A x.P x.nP x.rc x.nU x.cu (fun (e : Nat) => x.lenP e) (fun (e : Nat) => x.FC e) (fun (i e : Nat) => x.iO i e) (fun (i e : Nat) => x.iA i e) (fun (i e : Nat) => x.iB i e) (fun (e : Nat) => x.uP e) (fun (e : Nat) => x.uL e) fun (e : Nat) => x.uD e))
    (V.need (1 ≤ 1)
    (V.need (0 + ncN x_1.fst ≤ 0 + ncN x_1.fst ∧ 0 + ncN x_1.fst ≤ x_4)
    (V.need (∀ (i e : Nat), i = 0 ∧ e < 0 + ncN x_1.fst → Int.ofNat 0 = Int.ofNat 0)
    (V.need (1 ≤ 1)
    (V.need (ncN (Cf.mk x.W x.L x.C x.T x.D x.H x.B x.A x.P x.nP x.rc x.nU x.cu (fun (e : Nat) => x.lenP e) (fun (e : Nat) => x.FC e) (fun (i e : Nat) => x.iO i e) (fun (i e : Nat) => x.iA i e) (fun (i e : Nat) => x.iB i e) (fun (e : Nat) => x.uP e) (fun (e : Nat) => x.uL e) fun (e : Nat) => x.uD e) ≤ ncN (Cf.mk x.W x.L x.C x.T x.D x.H x.B x.A x.P x.nP x.rc x.nU x.cu (fun (e : Nat) => x.lenP e) (fun (e : Nat) => x.FC e) (fun (i e : Nat) => x.iO i e) (fun (i e : Nat) => x.iA i e) (fun (i e : Nat) => x.iB i e) (fun (e : Nat) => x.uP e) (fun (e : Nat) => x.uL e) fun (e : Nat) => x.uD e) ∧ ncN (Cf.mk x.W x.L x.C x.T x.D x.H x.B x.A x.P x.nP x.rc x.nU x.cu (fun (e : Nat) => x.lenP e) (fun (e : Nat) => x.FC e) (fun (i e : Nat) => x.iO i e) (fun (i e : Nat) => x.iA i e) (fun (i e : Nat) => x.iB i e) (fun (e : Nat) => x.uP e) (fun (e : Nat) => x.uL e) fun (e : Nat) => x.uD e) ≤ ncN (Cf.mk x.W x.L x.C x.T x.D x.H x.B x.A x.P x.nP x.rc x.nU x.cu (fun (e : Nat) => x.lenP e) (fun (e : Nat) => x.FC e) (fun (i e : Nat) => x.iO i e) (fun (i e : Nat) => x.iA i e) (fun (i e : Nat) => x.iB i e) (fun (e : Nat) => x.uP e) (fun (e : Nat) => x.uL e) fun (e : Nat) => x.uD e))
    (V.need (∀ (i e : Nat), i = 0 ∧ e < ncN (Cf.mk x.W x.L x.C x.T x.D x.H x.B x.A x.P x.nP x.rc x.nU x.cu (fun (e : Nat) => x.lenP e) (fun (e : Nat) => x.FC e) (fun (i e : Nat) => x.iO i e) (fun (i e : Nat) => x.iA i e) (fun (i e : Nat) => x.iB i e) (fun (e : Nat) => x.uP e) (fun (e : Nat) => x.uL e) fun (e : Nat) => x.uD e) → Int.ofNat 0 = Int.ofNat 0)
    (V.need (0 + ncN x_1.fst ≤ 1000000)
    (V.br ((R1.mk (0 + ncN x_1.fst) x_4 fun (e : Nat) => Int.ofNat 0).eqB (R1.mk (ncN (Cf.mk x.W x.L x.C x.T x.D x.H x.B x.A x.P x.nP x.rc x.nU x.cu (fun (e : Nat) => x.lenP e) (fun (e : Nat) => x.FC e) (fun (i e : Nat) => x.iO i e) (fun (i e : Nat) => x.iA i e) (fun (i e : Nat) => x.iB i e) (fun (e : Nat) => x.uP e) (fun (e : Nat) => x.uL e) fun (e : Nat) => x.uD e)) (ncN (Cf.mk x.W x.L x.C x.T x.D x.H x.B x.A x.P x.nP x.rc x.nU x.cu (fun (e : Nat) => x.lenP e) (fun (e : Nat) => x.FC e) (fun (i e : Nat) => x.iO i e) (fun (i e : Nat) => x.iA i e) (fun (i e : Nat) => x.iB i e) (fun (e : Nat) => x.uP e) (fun (e : Nat) => x.uL e) fun (e : Nat) => x.uD e)) fun (e : Nat) => Int.ofNat 0))
    (V.need (0 < 1 ∧ 0 < 1)
    (V.need (0 < 1 ∧ 0 < 1)
    (V.need (0 < 1 ∧ 0 < 1)
    (V.need (0 < 1 ∧ 0 < 1)
    (V.need (0 < 1 ∧ 0 < 1)
    (V.need (0 < 1 ∧ 0 < 1)
    (V.need (0 < 1 ∧ 0 < 1)
    (V.need (0 < 1 ∧ 0 < 1)
    (V.need (0 < 1 ∧ 0 < 1)
    (V.need (0 < 1 ∧ 0 < 1)
    (V.br true
    (V.need (0 < 1 ∧ 0 < 1)
    (V.need (0 < 1 ∧ 0 < 1)
    (V.need (0 < 1 ∧ 0 < 1)
    (V.need (0 < 1 ∧ 0 < 1)
    (V.need (0 < 1 ∧ 0 < 1)
    (V.need (0 < 1 ∧ 0 < 1)
    (V.need (0 < 1 ∧ 0 < 1)
    (V.need (0 < 1 ∧ 0 < 1)
    (V.need (0 < 1 ∧ 0 < 1)
    (V.need (0 < 1 ∧ 0 < 1)
    (V.br true
    (V.need (0 < 1 ∧ 0 < 1)
    (V.need (0 < 1 ∧ 0 < 1)
    (V.need (0 < 1 ∧ 0 < 1)
    (V.need (0 < 1 ∧ 0 < 1)
    (V.need (0 < 1 ∧ 0 < 1)
    (V.need (0 < 1 ∧ 0 < 1)
    (V.need (0 < 1 ∧ 0 < 1)
    (V.need (0 < 1 ∧ 0 < 1)
    (V.need (0 < 1 ∧ 0 < 1)
    (V.need (0 < 1 ∧ 0 < 1)
    (V.need (0 < 1 ∧ 0 < 1)
    (V.need (0 < 1 ∧ 0 < 1)
    (V.need (x.T.toNat = x.T.toNat)
    (V.need (x_1.snd = x_1.snd)
    (V.need (x.T.toNat = x.T.toNat)
    (V.need (x_2 = x_2)
    (V.need (x_1.snd = x_1.snd)
    (V.need (x.T.toNat ≤ x.T.toNat)
    (V.need (∀ (e : Nat), e < x.T.toNat → Int.ofNat 0 = Int.ofNat 0)
    (V.need (∀ (e : Nat), e < x.T.toNat → -Int.ofNat 1 = -Int.ofNat 1)
    (V.need (∀ (e : Nat), e < x.T.toNat → Int.ofNat 0 = Int.ofNat 0)
    (V.need (∀ (e : Nat), e < x.T.toNat → Int.ofNat 0 = Int.ofNat 0)
    (V.need (∀ (e : Nat), e < x.T.toNat → -Int.ofNat 1 = -Int.ofNat 1)
    (V.need (∀ (e : Nat), e < x.T.toNat → false = false)
    (V.need (x_2 = x_2)
    (V.need (x.T.toNat ≤ x.T.toNat)
    (V.need (∀ (e : Nat), e < x.T.toNat → Int.ofNat 0 = Int.ofNat 0)
    (V.need (∀ (e : Nat), e < x.T.toNat → -Int.ofNat 1 = -Int.ofNat 1)
    (V.need (∀ (e : Nat), e < x.T.toNat → Int.ofNat 0 = Int.ofNat 0)
    (V.need (∀ (e : Nat), e < x.T.toNat → Int.ofNat 0 = Int.ofNat 0)
    (V.need (∀ (e : Nat), e < x.T.toNat → -Int.ofNat 1 = -Int.ofNat 1)
    (V.need (∀ (e : Nat), e < x.T.toNat → false = false)
    (V.need (x.T.toNat ≤ 1000000)
    (V.need (∃ (x : Unit), True)
    (V.any Unit (fun (x : Unit) => True) fun (x_5 : Unit) => V.br (decide (x.T.toNat = x.T.toNat))
    (V.need (0 < 1 ∧ 0 < 1)
    (V.need (0 < 1 ∧ 0 < 1)
    (V.need (0 < 1 ∧ 0 < 1)
    (V.need (0 < 1 ∧ 0 < 1)
    (V.need (0 < 1 ∧ 0 < 1)
    (V.need (0 < 1 ∧ 0 < 1)
    (V.need (0 < 1 ∧ 0 < 1)
    (V.need (0 < 1 ∧ 0 < 1)
    (V.need (0 < 1 ∧ 0 < 1)
    (V.br false
    (V.bad 420)
    (V.need (0 < 1 ∧ 0 < 1)
    (V.need (0 < 1 ∧ 0 < 1)
    (V.need (0 < 1 ∧ 0 < 1)
    (V.need (0 < 1 ∧ 0 < 1)
    (V.need (0 < 1 ∧ 0 < 1)
    (V.need (0 < 1 ∧ 0 < 1)
    (V.need (0 < 1 ∧ 0 < 1)
    (V.need (0 < 1 ∧ 0 < 1)
    (V.need (0 < 1 ∧ 0 < 1)
    (V.need (0 < 1 ∧ 0 < 1)
    (V.need (0 < 1 ∧ 0 < 1)
    (V.need (0 < 1 ∧ 0 < 1)
    (V.need (0 < 1 ∧ 0 < 1)
    (V.need (0 < 1 ∧ 0 < 1)
    (V.need (0 < 1 ∧ 0 < 1)
    (V.need (0 < 1 ∧ 0 < 1)
    (V.need (0 < 1 ∧ 0 < 1)
    (V.need (0 < 1 ∧ 0 < 1)
    (V.need (0 < 1 ∧ 0 < 1)
    (V.need (0 < 1 ∧ 0 < 1)
    (V.need (0 < 1 ∧ 0 < 1)
    (V.need (0 < 1 ∧ 0 < 1)
    (V.need (0 < 1 ∧ 0 < 1)
    (V.need (0 < 1 ∧ 0 < 1)
    (V.need (x_1.fst.W = x_1.fst.W)
    (V.need (x_1.fst.L = x_1.fst.L)
    (V.need (x_1.fst.C = x_1.fst.C)
    (V.need (x_1.fst.T = x_1.fst.T)
    (V.need (x_1.fst.D = x_1.fst.D)
    (V.need (x_1.fst.H = x_1.fst.H)
    (V.need (x_1.fst.B = x_1.fst.B)
    (V.need (x_1.fst.A = x_1.fst.A)
    (V.need (x_1.fst.P = x_1.fst.P)
    (V.need (x_1.fst.nP = x_1.fst.nP)
    (V.need (x_1.fst.rc = x_1.fst.rc)
    (V.need (x_1.fst.nU = x_1.fst.nU)
    (V.need (x_1.fst.cu = x_1.fst.cu)
    (V.need (x.W = x.W)
    (V.need (x.L = x.L)
    (V.need (x.C = x.C)
    (V.need (x.T = x.T)
    (V.need (x.D = x.D)
    (V.need (x.H = x.H)
    (V.need (x.B = x.B)
    (V.need (x.A = x.A)
    (V.need (x.P = x.P)
    (V.need (x.nP = x.nP)
    (V.need (x.rc = x.rc)
    (V.need (x.nU = x.nU)
    (V.need (x.cu = x.cu)
    (V.need (1 ≤ 1)
    (V.need (x_1.fst.nP ≤ x_1.fst.nP ∧ x_1.fst.nP ≤ x_1.fst.rc)
    (V.need (∀ (i e : Nat), i = 0 ∧ e < x_1.fst.nP → e = e)
    (V.need (∀ (i e : Nat), i = 0 ∧ e < x_1.fst.nP → x_1.fst.lenP e = x_1.fst.lenP e)
    (V.need (∀ (i e : Nat), i = 0 ∧ e < x_1.fst.nP → x_1.fst.FC e = x_1.fst.FC e)
    (V.need (1 ≤ 1)
    (V.need (x_1.fst.nU ≤ x_1.fst.nU ∧ x_1.fst.nU ≤ x_1.fst.cu)
    (V.need (∀ (i e : Nat), i = 0 ∧ e < x_1.fst.nU → x_1.fst.uP e = x_1.fst.uP e)
    (V.need (∀ (i e : Nat), i = 0 ∧ e < x_1.fst.nU → x_1.fst.uL e = x_1.fst.uL e)
    (V.need (∀ (i e : Nat), i = 0 ∧ e < x_1.fst.nU → x_1.fst.uD e = x_1.fst.uD e)
    (V.need (∀ (i : Nat), i < x_1.fst.nP → x_1.fst.lenP i ≤ gd x_1.fst.nP x_1.fst.lenP i ∧ x_1.fst.lenP i ≤ gd x_1.fst.nP x_1.fst.FC i)
    (V.need (∀ (i e : Nat), i < x_1.fst.nP ∧ e < x_1.fst.lenP i → x_1.fst.iO i e = x_1.fst.iO i e)
    (V.need (∀ (i e : Nat), i < x_1.fst.nP ∧ e < x_1.fst.lenP i → x_1.fst.iA i e = x_1.fst.iA i e)
    (V.need (∀ (i e : Nat), i < x_1.fst.nP ∧ e < x_1.fst.lenP i → x_1.fst.iB i e = x_1.fst.iB i e)
    (V.need (1 ≤ 1)
    (V.need (x.nP ≤ x.nP ∧ x.nP ≤ x.rc)
    (V.need (∀ (i e : Nat), i = 0 ∧ e < x.nP → e = e)
    (V.need (∀ (i e : Nat), i = 0 ∧ e < x.nP → x.lenP e = x.lenP e)
    (V.need (∀ (i e : Nat), i = 0 ∧ e < x.nP → x.FC e = x.FC e)
    (V.need (1 ≤ 1)
    (V.need (x.nU ≤ x.nU ∧ x.nU ≤ x.cu)
    (V.need (∀ (i e : Nat), i = 0 ∧ e < x.nU → x.uP e = x.uP e)
    (V.need (∀ (i e : Nat), i = 0 ∧ e < x.nU → x.uL e = x.uL e)
    (V.need (∀ (i e : Nat), i = 0 ∧ e < x.nU → x.uD e = x.uD e)
    (V.need (∀ (i : Nat), i < x.nP → x.lenP i ≤ gd x.nP x.lenP i ∧ x.lenP i ≤ gd x.nP x.FC i)
    (V.need (∀ (i e : Nat), i < x.nP ∧ e < x.lenP i → x.iO i e = x.iO i e)
    (V.need (∀ (i e : Nat), i < x.nP ∧ e < x.lenP i → x.iA i e = x.iA i e)
    (V.need (∀ (i e : Nat), i < x.nP ∧ e < x.lenP i → x.iB i e = x.iB i e)
    (V.need (preE (Cf.mk x_1.fst.W x_1.fst.L x_1.fst.C x_1.fst.T x_1.fst.D x_1.fst.H x_1.fst.B x_1.fst.A x_1.fst.P x_1.fst.nP x_1.fst.rc x_1.fst.nU x_1.fst.cu (fun (e : Nat) => x_1.fst.lenP e) (fun (e : Nat) => x_1.fst.FC e) (fun (i e : Nat) => x_1.fst.iO i e) (fun (i e : Nat) => x_1.fst.iA i e) (fun (i e : Nat) => x_1.fst.iB i e) (fun (e : Nat) => x_1.fst.uP e) (fun (e : Nat) => x_1.fst.uL e) fun (e : Nat) => x_1.fst.uD e))
    (V.br (!eqCB (Cf.mk x_1.fst.W x_1.fst.L x_1.fst.C x_1.fst.T x_1.fst.D x_1.fst.H x_1.fst.B x_1.fst.A x_1.fst.P x_1.fst.nP x_1.fst.rc x_1.fst.nU x_1.fst.cu (fun (e : Nat) => x_1.fst.lenP e) (fun (e : Nat) => x_1.fst.FC e) (fun (i e : Nat) => x_1.fst.iO i e) (fun (i e : Nat) => x_1.fst.iA i e) (fun (i e : Nat) => x_1.fst.iB i e) (fun (e : Nat) => x_1.fst.uP e) (fun (e : Nat) => x_1.fst.uL e) fun (e : Nat) => x_1.fst.uD e) (Cf.mk x.W x.L x.C x.T x.D x.H x.B x.A x.P x.nP x.rc x.nU x.cu (fun (e : Nat) => x.lenP e) (fun (e : Nat) => x.FC e) (fun (i e : Nat) => x.iO i e) (fun (i e : Nat) => x.iA i e) (fun (i e : Nat) => x.iB i e) (fun (e : Nat) => x.uP e) (fun (e : Nat) => x.uL e) fun (e : Nat) => x.uD e))
    (V.bad 420)
    (V.need (0 < 1 ∧ 0 < 1)
    (V.need (0 < 1 ∧ 0 < 1)
    (V.need (0 < 1 ∧ 0 < 1)
    (V.need (0 < 1 ∧ 0 < 1)
    (V.need (0 < 1 ∧ 0 < 1)
    (V.need (0 < 1 ∧ 0 < 1)
    (V.need (0 < 1 ∧ 0 < 1)
    (V.need (0 < 1 ∧ 0 < 1)
    (V.need (0 < 1 ∧ 0 < 1)
    (V.need (0 < 1 ∧ 0 < 1)
    (V.need (0 < 1 ∧ 0 < 1)
    (V.need (0 < 1 ∧ 0 < 1)
    (V.need (0 < 1 ∧ 0 < 1)
    (V.need (0 < 1 ∧ 0 < 1)
    (V.need (0 < 1 ∧ 0 < 1)
    (V.need (0 < 1 ∧ 0 < 1)
    (V.br (IntKind.i64.wrap (lT x_1.fst + IntKind.i64.wrap (Int.ofNat 5 * x_1.fst.T)) != (↑(ncN x_1.fst) : Int))
    (V.bad 420)
    (V.need (c.W = c.W)
    (V.need (c.L = c.L)
    (V.need (c.C = c.C)
    (V.need (c.T = c.T)
    (V.need (c.D = c.D)
    (V.need (c.H = c.H)
    (V.need (c.B = c.B)
    (V.need (c.A = c.A)
    (V.need (c.P = c.P)
    (V.need (c.nP = c.nP)
    (V.need (c.rc = c.rc)
    (V.need (c.nU = c.nU)
    (V.need (c.cu = c.cu)
    (V.need (1 ≤ 1)
    (V.need (∀ (i : Nat), i < 1 → c.nP ≤ c.nP)
    (V.need (∀ (i e : Nat), i < 1 ∧ e < c.nP → e = e)
    (V.need (∀ (i e : Nat), i < 1 ∧ e < c.nP → c.lenP e = c.lenP e)
    (V.need (∀ (i e : Nat), i < 1 ∧ e < c.nP → c.FC e = c.FC e)
    (V.need (1 ≤ 1)
    (V.need (∀ (i : Nat), i < 1 → c.nU ≤ c.nU)
    (V.need (∀ (i e : Nat), i < 1 ∧ e < c.nU → c.uP e = c.uP e)
    (V.need (∀ (i e : Nat), i < 1 ∧ e < c.nU → c.uL e = c.uL e)
    (V.need (∀ (i e : Nat), i < 1 ∧ e < c.nU → c.uD e = c.uD e)
    (V.need (c.nP ≤ c.nP)
    (V.need (∀ (i : Nat), i < c.nP → c.lenP i ≤ c.lenP i)
    (V.need (∀ (i e : Nat), i < c.nP ∧ e < c.lenP i → c.iO i e = c.iO i e)
    (V.need (∀ (i e : Nat), i < c.nP ∧ e < c.lenP i → c.iA i e = c.iA i e)
    (V.need (∀ (i e : Nat), i < c.nP ∧ e < c.lenP i → c.iB i e = c.iB i e)
    (V.need True
    (V.br (decide (errE (Cf.mk c.W c.L c.C c.T c.D c.H c.B c.A c.P c.nP c.rc c.nU c.cu (fun (e : Nat) => c.lenP e) (fun (e : Nat) => c.FC e) (fun (i e : Nat) => c.iO i e) (fun (i e : Nat) => c.iA i e) (fun (i e : Nat) => c.iB i e) (fun (e : Nat) => c.uP e) (fun (e : Nat) => c.uL e) fun (e : Nat) => c.uD e) = Int.ofNat 0))
    (V.need (∃ (x : Cf × Nat), IsCl (Cf.mk c.W c.L c.C c.T c.D c.H c.B c.A c.P c.nP c.rc c.nU c.cu (fun (e : Nat) => c.lenP e) (fun (e : Nat) => c.FC e) (fun (i e : Nat) => c.iO i e) (fun (i e : Nat) => c.iA i e) (fun (i e : Nat) => c.iB i e) (fun (e : Nat) => c.uP e) (fun (e : Nat) => c.uL e) fun (e : Nat) => c.uD e) x.fst ∧ c.T.toNat ≤ x.snd)
    (V.any (Cf × Nat) (fun (x : Cf × Nat) => IsCl (Cf.mk c.W c.L c.C c.T c.D c.H c.B c.A c.P c.nP c.rc c.nU c.cu (fun (e : Nat) => c.lenP e) (fun (e : Nat) => c.FC e) (fun (i e : Nat) => c.iO i e) (fun (i e : Nat) => c.iA i e) (fun (i e : Nat) => c.iB i e) (fun (e : Nat) => c.uP e) (fun (e : Nat) => c.uL e) fun (e : Nat) => c.uD e) x.fst ∧ c.T.toNat ≤ x.snd) fun (x : Cf × Nat) => V.need (c.W = c.W)
    (V.need (c.L = c.L)
    (V.need (c.C = c.C)
    (V.need (c.T = c.T)
    (V.need (c.D = c.D)
    (V.need (c.H = c.H)
    (V.need (c.B = c.B)
    (V.need (c.A = c.A)
    (V.need (c.P = c.P)
    (V.need (c.nP = c.nP)
    (V.need (c.rc = c.rc)
    (V.need (c.nU = c.nU)
    (V.need (c.cu = c.cu)
    (V.need (1 ≤ 1)
    (V.need (∀ (i : Nat), i < 1 → c.nP ≤ c.nP)
    (V.need (∀ (i e : Nat), i < 1 ∧ e < c.nP → e = e)
    (V.need (∀ (i e : Nat), i < 1 ∧ e < c.nP → c.lenP e = c.lenP e)
    (V.need (∀ (i e : Nat), i < 1 ∧ e < c.nP → c.FC e = c.FC e)
    (V.need (1 ≤ 1)
    (V.need (∀ (i : Nat), i < 1 → c.nU ≤ c.nU)
    (V.need (∀ (i e : Nat), i < 1 ∧ e < c.nU → c.uP e = c.uP e)
    (V.need (∀ (i e : Nat), i < 1 ∧ e < c.nU → c.uL e = c.uL e)
    (V.need (∀ (i e : Nat), i < 1 ∧ e < c.nU → c.uD e = c.uD e)
    (V.need (c.nP ≤ c.nP)
    (V.need (∀ (i : Nat), i < c.nP → c.lenP i ≤ c.lenP i)
    (V.need (∀ (i e : Nat), i < c.nP ∧ e < c.lenP i → c.iO i e = c.iO i e)
    (V.need (∀ (i e : Nat), i < c.nP ∧ e < c.lenP i → c.iA i e = c.iA i e)
    (V.need (∀ (i e : Nat), i < c.nP ∧ e < c.lenP i → c.iB i e = c.iB i e)
    (V.need True
    (V.br (Int.ofNat 0 != errE (Cf.mk c.W c.L c.C c.T c.D c.H c.B c.A c.P c.nP c.rc c.nU c.cu (fun (e : Nat) => c.lenP e) (fun (e : Nat) => c.FC e) (fun (i e : Nat) => c.iO i e) (fun (i e : Nat) => c.iA i e) (fun (i e : Nat) => c.iB i e) (fun (e : Nat) => c.uP e) (fun (e : Nat) => c.uL e) fun (e : Nat) => c.uD e))
    (V.bad 420)
    (V.need (Int.ofNat 300 ≠ Int.ofNat 0)
    (V.need (Int.ofNat 0 ≤ min (max (n.tmod (Int.ofNat 300)) (Int.ofNat 0)) (Int.ofNat 131072) ∧ min (max (n.tmod (Int.ofNat 300)) (Int.ofNat 0)) (Int.ofNat 131072) ≤ min (max (n.tmod (Int.ofNat 300)) (Int.ofNat 0)) (Int.ofNat 131072) ∧ (↑8 : Int) * min (max (n.tmod (Int.ofNat 300)) (Int.ofNat 0)) (Int.ofNat 131072) ≤ Int.ofNat 281474976710656 ∧ min (max (n.tmod (Int.ofNat 300)) (Int.ofNat 0)) (Int.ofNat 131072) ≤ Int.ofNat 9223372036854775807)
    (V.br ((↑(min (max (n.tmod (Int.ofNat 300)) (Int.ofNat 0)) (Int.ofNat 131072)).toNat : Int) == max (Int.ofNat 0) (n.tmod (Int.ofNat 300))) V.ok
    (V.bad 420)))))))))))))))))))))))))))))))))))
    (V.need (c.W = c.W)
    (V.need (c.L = c.L)
    (V.need (c.C = c.C)
    (V.need (c.T = c.T)
    (V.need (c.D = c.D)
    (V.need (c.H = c.H)
    (V.need (c.B = c.B)
    (V.need (c.A = c.A)
    (V.need (c.P = c.P)
    (V.need (c.nP = c.nP)
    (V.need (c.rc = c.rc)
    (V.need (c.nU = c.nU)
    (V.need (c.cu = c.cu)
    (V.need (1 ≤ 1)
    (V.need (∀ (i : Nat), i < 1 → c.nP ≤ c.nP)
    (V.need (∀ (i e : Nat), i < 1 ∧ e < c.nP → e = e)
    (V.need (∀ (i e : Nat), i < 1 ∧ e < c.nP → c.lenP e = c.lenP e)
    (V.need (∀ (i e : Nat), i < 1 ∧ e < c.nP → c.FC e = c.FC e)
    (V.need (1 ≤ 1)
    (V.need (∀ (i : Nat), i < 1 → c.nU ≤ c.nU)
    (V.need (∀ (i e : Nat), i < 1 ∧ e < c.nU → c.uP e = c.uP e)
    (V.need (∀ (i e : Nat), i < 1 ∧ e < c.nU → c.uL e = c.uL e)
    (V.need (∀ (i e : Nat), i < 1 ∧ e < c.nU → c.uD e = c.uD e)
    (V.need (c.nP ≤ c.nP)
    (V.need (∀ (i : Nat), i < c.nP → c.lenP i ≤ c.lenP i)
    (V.need (∀ (i e : Nat), i < c.nP ∧ e < c.lenP i → c.iO i e = c.iO i e)
    (V.need (∀ (i e : Nat), i < c.nP ∧ e < c.lenP i → c.iA i e = c.iA i e)
    (V.need (∀ (i e : Nat), i < c.nP ∧ e < c.lenP i → c.iB i e = c.iB i e)
    (V.need True
    (V.br (errE (Cf.mk c.W c.L c.C c.T c.D c.H c.B c.A c.P c.nP c.rc c.nU c.cu (fun (e : Nat) => c.lenP e) (fun (e : Nat) => c.FC e) (fun (i e : Nat) => c.iO i e) (fun (i e : Nat) => c.iA i e) (fun (i e : Nat) => c.iB i e) (fun (e : Nat) => c.uP e) (fun (e : Nat) => c.uL e) fun (e : Nat) => c.uD e) != errE (Cf.mk c.W c.L c.C c.T c.D c.H c.B c.A c.P c.nP c.rc c.nU c.cu (fun (e : Nat) => c.lenP e) (fun (e : Nat) => c.FC e) (fun (i e : Nat) => c.iO i e) (fun (i e : Nat) => c.iA i e) (fun (i e : Nat) => c.iB i e) (fun (e : Nat) => c.uP e) (fun (e : Nat) => c.uL e) fun (e : Nat) => c.uD e))
    (V.bad 420)
    (V.need (Int.ofNat 300 ≠ Int.ofNat 0)
    (V.need (Int.ofNat 0 ≤ min (max (n.tmod (Int.ofNat 300)) (Int.ofNat 0)) (Int.ofNat 131072) ∧ min (max (n.tmod (Int.ofNat 300)) (Int.ofNat 0)) (Int.ofNat 131072) ≤ min (max (n.tmod (Int.ofNat 300)) (Int.ofNat 0)) (Int.ofNat 131072) ∧ (↑8 : Int) * min (max (n.tmod (Int.ofNat 300)) (Int.ofNat 0)) (Int.ofNat 131072) ≤ Int.ofNat 281474976710656 ∧ min (max (n.tmod (Int.ofNat 300)) (Int.ofNat 0)) (Int.ofNat 131072) ≤ Int.ofNat 9223372036854775807)
    (V.br ((↑(min (max (n.tmod (Int.ofNat 300)) (Int.ofNat 0)) (Int.ofNat 131072)).toNat : Int) == max (Int.ofNat 0) (n.tmod (Int.ofNat 300))) V.ok
    (V.bad 420)))))))))))))))))))))))))))))))))))))))))))))))))))))))))))))))))))))))))))))))))))))))))))))))))))))))))))))))))))))))))))))))))))))))))))))))))))))))))))))))))))))))))))
    (V.bad 420))))))))))))))))))))))))))))))))))))
    (V.bad 420))))))))))))
    (V.bad 420))))))))))))
    (V.bad 420))))))))))))))))))))))))))))))))))))))))))))))))))))))))))))))))))))))))))))))))
    (V.need True
    (V.br (errE (Cf.mk x.W x.L x.C x.T x.D x.H x.B x.A x.P x.nP x.rc x.nU x.cu (fun (e : Nat) => x.lenP e) (fun (e : Nat) => x.FC e) (fun (i e : Nat) => x.iO i e) (fun (i e : Nat) => x.iA i e) (fun (i e : Nat) => x.iB i e) (fun (e : Nat) => x.uP e) (fun (e : Nat) => x.uL e) fun (e : Nat) => x.uD e) != Int.ofNat 0)
    (V.bad 420)
    (V.bad 420))))))))))))))))))))))))))))))))))))))))) := by kernel_rfl


end Go.Proofs.Ytjpnpaboahbncaa.Vc


/- MachineEnvs: the law's conditions hold; the walk. -/
set_option linter.unusedVariables false
set_option linter.unusedSimpArgs false
set_option maxRecDepth 100000
namespace Go.Proofs.Ytjpnpaboahbncaa.Vc
open Go Go.RowKit Sx Cn Dc Ck
theorem zero_eq {n m c d : Nat} {f g : Nat → Int} (h : n = m) (hf : ∀ e, e < n → f e = g e) : (R1.mk n c f).eqB (R1.mk m d g) = true := (n1_t (r := R1.mk n c f) (s := R1.mk m d g) ⟨h, hf⟩).symm
theorem cl_eqE {x z : Cf} (h : IsCl x z) : eqCB z x = true := by
  obtain ⟨FC, rc, cu, _, rfl⟩ := h
  exact (cq_t ⟨⟨rfl, rfl, rfl, rfl, rfl, rfl, rfl, rfl, rfl⟩, ⟨rfl, fun _ _ => ⟨rfl, fun _ _ => ⟨rfl, rfl, rfl⟩⟩⟩, ⟨rfl, fun _ _ => ⟨rfl, rfl, rfl⟩⟩⟩).symm
theorem tmod_bdE (a : Int) {b : Int} (h : 0 < b) : -b < a.tmod b ∧ a.tmod b < b := by
  refine ⟨?_, Int.tmod_lt_of_pos a h⟩
  have := Int.tmod_lt_of_pos (-a) h
  rw [Int.neg_tmod] at this
  omega
set_option maxHeartbeats 8000000 in
theorem vhEnvs (g : Nat → Int) (len cap : Nat) (c : Cf) (n : Int) (hu : U8 len g) : VHolds (verEnvs g len cap c n) := by
  constructor
  rw [verEnvs_eq]
  simp only [V.holds, cf_eta, Int.ofNat_eq_natCast, decide_eq_true_eq, decide_eq_false_iff_not, Bool.not_eq_true', Bool.not_eq_false', bne_iff_ne, bne_eq_false_iff_eq, beq_iff_eq, beq_eq_false_iff_ne, ne_eq, true_and, and_true, forall_const, true_implies, implies_true, Nat.zero_add, Nat.sub_zero, Nat.lt_add_one, Nat.zero_lt_one, Int.natCast_zero, Int.natCast_one, Int.cast_ofNat_Int, gt_iff_lt, ge_iff_le, and_self, eq_self, Nat.le_refl, if_true, Int.toNat_zero, ite_self, not_true_eq_false, not_false_eq_true, false_implies, if_false, and_false]
  repeat' first
    | exact True.intro
    | with_reducible apply And.intro
    | (intro (d : Cf) (hd : IsDec _ _ d)
       have hE := dec_err hu hd
       have hY := okY_of hE
       have hS := dec_small' hu hd
       have hS1 := hS.1
       have hT := hY.2.2.2.1
       have hN := nc_bd hY
       have hN2 : ncN d = (ncI d).toNat := rfl
       have hN3 : 0 < ncN d := by
         have := (wy hY).t
         unfold ncI at hN2; omega)
    | (intro (y : Cf × Nat) (hy : IsCl d y.1 ∧ _)
       obtain ⟨hy1, hy2⟩ := hy
       have hq := cl_eqE hy1
       obtain ⟨x, q⟩ := y
       simp only at hy1 hy2 hq ⊢
       obtain ⟨F', x', z', hb, rfl⟩ := hy1
       have hN4 : ncN (clOf d F' x' z') = ncN d := rfl
       have hY4 : okY (clOf d F' x' z') := hY
       have hW4 := (wy hY).t
       have hL4 : lT (clOf d F' x' z') = lT d := rfl
       have hI4 : IntKind.i64.wrap (5 * (clOf d F' x' z').T) = 5 * (clOf d F' x' z').T := wnc1 hY4
       have hJ4 : IntKind.i64.wrap (lT (clOf d F' x' z') + 5 * (clOf d F' x' z').T) = ncI (clOf d F' x' z') := wnc2 hY4
       have hK4 : ncI (clOf d F' x' z') = ncI d := rfl
       simp only [hI4, hJ4, hN4, hK4])
    | intro _
  all_goals first
    | contradiction
    | omega
    | exact dec_some _ _
    | exact (hu _ (by assumption)).1
    | exact (hu _ (by assumption)).2
    | exact gd_at (by assumption) (Nat.le_refl _)
    | exact sm_f (by assumption) hS
    | exact sm_r hS
    | exact sm_u hS
    | exact ⟨(_, _), is_cl _, Nat.le_refl _⟩
    | exact ⟨_, Nat.le_refl _⟩
    | exact ⟨(), trivial⟩
    | exact ⟨false, fun h => by cases h⟩
    | exact hb.2.1
    | exact hb.2.2
    | exact gd_le (fun j hj => hb.1 j hj) _
    | exact small_preE hS
    | exact gd_at (by assumption) (hb.1 _ (by assumption))
    | (show preE d; exact small_preE hS)
    | (exfalso; exact (by assumption : _ = true → ¬ 0 < ncN d) (by assumption) hN3)
    | (exfalso; have := tmod_bdE n (b := 300) (by decide); omega)
    | exact hY
    | (exfalso; rename_i h; first | exact Bool.noConfusion (h.symm.trans (zero_eq rfl fun _ _ => rfl)) | exact Bool.noConfusion (h.symm.trans hq))
    | rfl
theorem walkEnvs (a : Option Addr) (len cap : Nat) (g : Nat → Int) (c : Cf) (a9 a10 : Option Addr) (aI : Nat → Option Addr) (n : Int) (w : World) (h : IsInts .u8 w a len cap g) (hc : IsCfg w c a9 a10 aI) (_ : (Lit.int .i64 n).wf = true) :
    Calls P 13 #[.slice a len cap, cfgVal c a9 a10, .int .i64 n] w fun e w' => e = .returned (.bool true) ∧ Below w.heap.size w w' := by
  have ht := tabC_h 1 a9 a10 aI (fun k i => if k = 0 ∧ i = 0 then addr0 a else none)
  have h3 : tabC 1 a9 a10 aI (fun k i => if k = 0 ∧ i = 0 then addr0 a else none) 0 0 = addr0 a := by simp [tabC]
  refine calls_yesV (vs := [.slice a len cap, cfgVal c a9 a10, .int .i64 n]) conEnv_ok (ρ := tabC 1 a9 a10 aI (fun k i => if k = 0 ∧ i = 0 then addr0 a else none))
    (vhEnvs g len cap c n fun e he => u8i (h.fits e he))
    (views_inv fun q b hk => ?_) ⟨h.val h3 ⟨Nat.le_of_ble_eq_true rfl, trivial⟩, IsCfg.val ht.1 ht.2.1 ⟨Nat.le_of_ble_eq_true rfl, trivial⟩ ⟨Nat.le_of_ble_eq_true rfl, trivial⟩, fun _ _ => rfl, trivial⟩
  have key : (q = 0 ∧ b = ints .u8 len g) ∨ find q (hCm 1 c) = some b := by
    simp only [List.cons_append, List.nil_append, find_cons] at hk
    split at hk
    · cases hk; exact .inl ⟨by assumption, rfl⟩
    · exact .inr hk
  rcases key with ⟨rfl, rfl⟩ | hk
  · exact ⟨rfl, by decide, h.sat h3⟩
  · obtain ⟨g1, g2, _, g3, g4⟩ := hc.sat ht.1 ht.2.1 ht.2.2.1 (n := Hp.sc ⟨[(0, ints .u8 len g)] ++ hCm 1 c, 4, fun _ => True⟩) ⟨Nat.le_of_ble_eq_true rfl, trivial⟩ q b hk
    exact ⟨g1, by omega, g3, g4⟩
end Go.Proofs.Ytjpnpaboahbncaa.Vc

