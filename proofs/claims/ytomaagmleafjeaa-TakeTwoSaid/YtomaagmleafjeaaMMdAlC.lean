/- Bits, rings: the contracts; the table for machines that run alone. -/
import Derived.Test.YtomaagmleafjeaaMMdAl
set_option linter.unusedVariables false
set_option linter.unusedSimpArgs false
set_option maxRecDepth 100000
namespace Go.Proofs.Ytomaagmleafjeaa.Md
open Go Go.RowKit Sx Cn Dc Ck Vc
theorem vhBit {n : Int} : VHolds (vBit n) := by
  constructor
  rw [vBit_eq]
  unfold bitM
  (repeat' first | with_reducible exact V.okI | with_reducible refine V.brT ?_ | with_reducible refine V.brF ?_ | with_reducible refine V.brI ?_ ?_ | with_reducible refine V.anyI ?_ | with_reducible refine nN_h rfl ?_ | with_reducible refine V.needI ?_ ?_ | with_reducible intro _)
  all_goals (simp only [decide_eq_true_eq, decide_eq_false_iff_not, Int.ofNat_eq_natCast, Bool.not_eq_true', Bool.not_eq_false', ge_iff_le, gt_iff_lt, Bool.and_eq_true, Bool.or_eq_true, Bool.not_eq_true, Bool.and_eq_false_iff] at *)
  all_goals first | omega | rfl | (rw [if_pos (by omega)]; rfl) | (rw [if_neg (by omega)]; rfl) | (rw [wu64 (by omega)]; omega) | trace_state
theorem vhCell {a b c d i : Int} (hd : d ≤ 9223372036854775807) : VHolds (vCell a b c d i) := by
  constructor
  rw [vCell_eq]
  unfold ringC
  (repeat' first | with_reducible exact V.okI | with_reducible refine V.brT ?_ | with_reducible refine V.brF ?_ | with_reducible refine V.brI ?_ ?_ | with_reducible refine V.anyI ?_ | with_reducible refine nN_h rfl ?_ | with_reducible refine V.needI ?_ ?_ | with_reducible intro _)
  all_goals (simp only [decide_eq_true_eq, decide_eq_false_iff_not, Int.ofNat_eq_natCast, Bool.not_eq_true', Bool.not_eq_false', ge_iff_le, gt_iff_lt, Bool.and_eq_true, Bool.or_eq_true, Bool.not_eq_true, Bool.and_eq_false_iff] at *)
  all_goals first | omega | rfl | (rw [if_pos (by omega)]; rfl) | (rw [if_neg (by omega)]; rfl) | (rw [wu64 (by omega)]; omega) | trace_state
noncomputable section
def cBit : List SV → Hp → Out (SV × Hp) := numF fBit fun l => match l with
  | [n] => useP [] 0 [iv n] [] (outR .u64 True (bitM n))
  | _ => fun _ _ => .bad 484
def cCell : List SV → Hp → Out (SV × Hp) := numF fCell fun l => match l with
  | [a, b, c, d, i] => useP [] 0 [.a [i6 a, i6 b, i6 c, i6 d], .c (uw i)] [] (outR .i64 (d ≤ 9223372036854775807) (ringC c d i))
  | _ => fun _ _ => .bad 484
theorem cBit_ok : ContractOK P fBit cBit := numF_ok fun l args H => by
  repeat' split
  all_goals first | exact .inl ⟨_, rfl⟩ | exact .inr ⟨_, _, _, _, _, rfl, local_of_ver ConOK.nil fun _ => vhBit⟩
theorem cCell_ok : ContractOK P fCell cCell := numF_ok fun l args H => by
  repeat' split
  all_goals first | exact .inl ⟨_, rfl⟩ | exact .inr ⟨_, _, _, _, _, rfl, local_of_ver ConOK.nil fun h => vhCell h⟩
def conTA : Con := Con.add fBit cBit (Con.add fCell cCell (Con.add 139 conLen (conT con0)))
theorem conTA_ok : ConOK P conTA := .add cBit_ok (.add cCell_ok (.add conLen_ok (conT_ok ConOK.nil)))
end
end Go.Proofs.Ytomaagmleafjeaa.Md
