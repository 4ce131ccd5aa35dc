/- Remainders by one, classes: the conditions, printed by program. -/
import Derived.Test.YtomaagmleafjeaaGreatMMdModD
import Derived.Test.YtomaagmleafjeaaGreatMW
import Derived.Test.YtomaagmleafjeaaGreatMMdLo
set_option linter.unusedVariables false
set_option linter.unusedSimpArgs false
set_option linter.unusedVariables false
set_option maxRecDepth 100000
namespace Go.Proofs.YtomaagmleafjeaaGreat.Md
open Go Go.RowKit Sx Cn Dc Ck Vc

theorem vMod_eq (a : Int) : vMod a =
  nN [(1, .neI 1 0)]
    (V.br (decide (a.tmod (Int.ofNat 1) < Int.ofNat 0))
    (V.need (IntKind.i64.wrap (a.tmod (Int.ofNat 1) + Int.ofNat 1) = Int.ofNat 0)
    (nN [(1, .pf (IntKind.i64.wrap (a.tmod (Int.ofNat 1) + Int.ofNat 1) = IntKind.i64.wrap (a.tmod (Int.ofNat 1) + Int.ofNat 1)) rfl)] V.ok))
    (V.need (a.tmod (Int.ofNat 1) = Int.ofNat 0)
    (nN [(1, .pf (a.tmod (Int.ofNat 1) = a.tmod (Int.ofNat 1)) rfl)] V.ok))) := by kernel_rfl

theorem vCls_eq (a b c : Int) : vCls a b c =
  V.br (decide (b < Int.ofNat 1))
    (V.need True
    (nN [(1, .eqI 0 0)] V.ok))
    (V.br (decide (b > Int.ofNat 64))
    (V.need True
    (nN [(1, .eqI 0 0)] V.ok))
    (V.br (decide (c < Int.ofNat 1))
    (V.need True
    (nN [(1, .eqI 0 0)] V.ok))
    (V.br (decide (c > Int.ofNat 8))
    (V.need True
    (nN [(1, .eqI 0 0)] V.ok))
    (V.br (decide (a < Int.ofNat 0))
    (V.need True
    (nN [(1, .eqI 0 0)] V.ok))
    (V.br (decide (a ≥ b))
    (V.need True
    (nN [(1, .eqI 0 0)] V.ok))
    (V.need (b ≠ Int.ofNat 0)
    (V.need True
    (nN [(1, .pf (IntKind.i64.wrap ((IntKind.i64.wrap (a * c)).tdiv b) = IntKind.i64.wrap ((IntKind.i64.wrap (a * c)).tdiv b)) rfl)] V.ok)))))))) := by kernel_rfl


end Go.Proofs.YtomaagmleafjeaaGreat.Md

/- Remainders by one, classes: the contracts. -/
set_option linter.unusedVariables false
set_option linter.unusedSimpArgs false
set_option maxRecDepth 100000
namespace Go.Proofs.YtomaagmleafjeaaGreat.Md
open Go Go.RowKit Sx Cn Dc Ck Vc
theorem vhMod {a : Int} : VHolds (vMod a) := by
  constructor
  rw [vMod_eq]
  have h : a.tmod (Int.ofNat 1) = 0 := Int.tmod_one a
  simp only [h]
  (repeat' first | with_reducible exact V.okI | with_reducible refine V.brT ?_ | with_reducible refine V.brF ?_ | with_reducible refine V.brI ?_ ?_ | with_reducible refine V.anyI ?_ | with_reducible refine nN_h rfl ?_ | with_reducible refine V.needI ?_ ?_ | with_reducible intro _)
  all_goals first | exact True.intro | rfl | (rename_i h; exact absurd h (by decide))
theorem vhCls {a b c : Int} : VHolds (vCls a b c) := by
  constructor
  rw [vCls_eq]
  (repeat' first | with_reducible exact V.okI | with_reducible refine V.brT ?_ | with_reducible refine V.brF ?_ | with_reducible refine V.brI ?_ ?_ | with_reducible refine V.anyI ?_ | with_reducible refine nN_h rfl ?_ | with_reducible refine V.needI ?_ ?_ | with_reducible intro _)
  all_goals first | exact True.intro | (have h := of_decide_eq_false ‹decide (b < Int.ofNat 1) = false›; have h : ¬ b < (1 : Int) := h; show b ≠ (0 : Int); omega)
noncomputable section
def cMod : List SV → Hp → Out (SV × Hp) := numF fMod fun l => match l with
  | [a, n] => useP [] 0 [iv a, .c (.ki .i64 1)] [] (outR .i64 True 0)
  | _ => fun _ _ => .bad 484
def cCls : List SV → Hp → Out (SV × Hp) := numF fCls fun l => match l with
  | [a, b, c] => useP [] 0 [iv a, iv b, iv c] [] (.need True (.any Int (fun r => True) fun r => .leaf (.c (.iv .i64 r), ⟨[], 0, fun _ => True⟩)))
  | _ => fun _ _ => .bad 484
theorem cMod_ok : ContractOK P fMod cMod := numF_ok fun l args H => by
  repeat' split
  all_goals first | exact .inl ⟨_, rfl⟩ | exact .inr ⟨_, _, _, _, _, rfl, local_of_ver ConOK.nil fun _ => vhMod⟩
theorem cCls_ok : ContractOK P fCls cCls := numF_ok fun l args H => by
  repeat' split
  all_goals first | exact .inl ⟨_, rfl⟩ | exact .inr ⟨_, _, _, _, _, rfl, local_of_ver ConOK.nil fun _ => vhCls⟩
end
end Go.Proofs.YtomaagmleafjeaaGreat.Md
