/- A part of the proof. -/
import Derived.Test.YtjgldffneablmaaGreatMMdAl
set_option linter.unusedVariables false
set_option linter.unusedSimpArgs false
set_option maxRecDepth 100000
namespace Go.Proofs.YtjgldffneablmaaGreat.Md
open Go Go.RowKit Sx Cn Dc Ck Vc
theorem vhBit{n:Int}:zac (vBit n):=by
 constructor
 rw[vBit_eq]
 unfold bitM
 (with_reducible repeat' first|exact V.okI|refine V.brT ?_|refine V.brF ?_|refine V.brI ?_ ?_|refine V.anyI ?_|refine nN_h rfl ?_|refine V.needI ?_ ?_|intro _)
 all_goals (simp only[decide_eq_true_eq,decide_eq_false_iff_not,Int.ofNat_eq_natCast,Bool.not_eq_true',Bool.not_eq_false',ge_iff_le,gt_iff_lt,Bool.and_eq_true,Bool.or_eq_true,Bool.not_eq_true,Bool.and_eq_false_iff]at *)
 all_goals first|omega|rfl|(rw[if_pos (by omega)];rfl)|(rw[if_neg (by omega)];rfl)|(rw[wu64 (by omega)];omega)|trace_state
theorem vhCell{a b c d i:Int}(hd:d<=9223372036854775807):zac (vCell a b c d i):=by
 constructor
 rw[vCell_eq]
 unfold zd7
 (with_reducible repeat' first|exact V.okI|refine V.brT ?_|refine V.brF ?_|refine V.brI ?_ ?_|refine V.anyI ?_|refine nN_h rfl ?_|refine V.needI ?_ ?_|intro _)
 all_goals (simp only[decide_eq_true_eq,decide_eq_false_iff_not,Int.ofNat_eq_natCast,Bool.not_eq_true',Bool.not_eq_false',ge_iff_le,gt_iff_lt,Bool.and_eq_true,Bool.or_eq_true,Bool.not_eq_true,Bool.and_eq_false_iff]at *)
 all_goals first|omega|rfl|(rw[if_pos (by omega)];rfl)|(rw[if_neg (by omega)];rfl)|(rw[wu64 (by omega)];omega)|trace_state
noncomputable section
end
end Go.Proofs.YtjgldffneablmaaGreat.Md
