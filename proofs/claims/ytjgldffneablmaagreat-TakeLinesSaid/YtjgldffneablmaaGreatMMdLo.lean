/- A part of the proof. -/
import Derived.Test.YtjgldffneablmaaGreatMMdLoD
import Derived.Test.YtjgldffneablmaaGreatMW
set_option linter.unusedVariables false
set_option linter.unusedSimpArgs false
set_option maxRecDepth 100000
open Go.IntKind (i64 u64)
open Int renaming ofNat -> O, ofNat_eq_natCast -> Z
open Go.Proofs.YtjgldffneablmaaGreat.Sx.V renaming need -> U
namespace Go.Proofs.YtjgldffneablmaaGreat.Md
open Go Go.RowKit Sx Cn Dc Ck Vc
theorem vQuT_eq(y:Ly)(w l:Int):vQuT y w l=
 V.br (decide (w<O 0))
  (V.br (decide (l<O 0))
  (U (Qu.mk (Int.negSucc 0) (Int.negSucc 0) (Int.negSucc 0) (O 0)=quM y w l)
  (nN [(3,.pf (Int.negSucc 0=Int.negSucc 0) rfl),(1,.eqI 0 0)] V.ok))
  (V.br (decide (l >= y.L))
  (U (Qu.mk (Int.negSucc 0) (Int.negSucc 0) (Int.negSucc 0) (O 0)=quM y w l)
  (nN [(3,.pf (Int.negSucc 0=Int.negSucc 0) rfl),(1,.eqI 0 0)] V.ok))
  (U (Qu.mk (Int.negSucc 0) (Int.negSucc 0) (Int.negSucc 0) (O 0)=quM y w l)
  (nN [(3,.pf (Int.negSucc 0=Int.negSucc 0) rfl),(1,.eqI 0 0)] V.ok))))
  (V.br (decide (w >= y.W))
  (V.br (decide (l<O 0))
  (U (Qu.mk (Int.negSucc 0) (Int.negSucc 0) (Int.negSucc 0) (O 0)=quM y w l)
  (nN [(3,.pf (Int.negSucc 0=Int.negSucc 0) rfl),(1,.eqI 0 0)] V.ok))
  (V.br (decide (l >= y.L))
  (U (Qu.mk (Int.negSucc 0) (Int.negSucc 0) (Int.negSucc 0) (O 0)=quM y w l)
  (nN [(3,.pf (Int.negSucc 0=Int.negSucc 0) rfl),(1,.eqI 0 0)] V.ok))
  (U (Qu.mk (Int.negSucc 0) (Int.negSucc 0) (Int.negSucc 0) (O 0)=quM y w l)
  (nN [(3,.pf (Int.negSucc 0=Int.negSucc 0) rfl),(1,.eqI 0 0)] V.ok))))
  (V.br (decide (l<O 0))
  (V.br (decide (i64.wrap (y.qu+i64.wrap (w*i64.wrap (y.L*i64.wrap (O 2+y.D))))<O 0))
  (U (Qu.mk (Int.negSucc 0) (Int.negSucc 0) (Int.negSucc 0) (O 0)=quM y w l)
  (nN [(3,.pf (Int.negSucc 0=Int.negSucc 0) rfl),(1,.eqI 0 0)] V.ok))
  (U (Qu.mk (Int.negSucc 0) (Int.negSucc 0) (Int.negSucc 0) (O 0)=quM y w l)
  (nN [(3,.pf (Int.negSucc 0=Int.negSucc 0) rfl),(1,.eqI 0 0)] V.ok)))
  (V.br (decide (l >= y.L))
  (V.br (decide (i64.wrap (y.qu+i64.wrap (w*i64.wrap (y.L*i64.wrap (O 2+y.D))))<O 0))
  (U (Qu.mk (Int.negSucc 0) (Int.negSucc 0) (Int.negSucc 0) (O 0)=quM y w l)
  (nN [(3,.pf (Int.negSucc 0=Int.negSucc 0) rfl),(1,.eqI 0 0)] V.ok))
  (U (Qu.mk (Int.negSucc 0) (Int.negSucc 0) (Int.negSucc 0) (O 0)=quM y w l)
  (nN [(3,.pf (Int.negSucc 0=Int.negSucc 0) rfl),(1,.eqI 0 0)] V.ok)))
  (V.br (decide (i64.wrap (y.qu+i64.wrap (w*i64.wrap (y.L*i64.wrap (O 2+y.D))))<O 0))
  (U (Qu.mk (Int.negSucc 0) (Int.negSucc 0) (Int.negSucc 0) (O 0)=quM y w l)
  (nN [(3,.pf (Int.negSucc 0=Int.negSucc 0) rfl),(1,.eqI 0 0)] V.ok))
  (V.br (decide (i64.wrap (i64.wrap (y.qu+i64.wrap (w*i64.wrap (y.L*i64.wrap (O 2+y.D))))+i64.wrap (l*i64.wrap (O 2+y.D)))<O 0))
  (U (Qu.mk (Int.negSucc 0) (Int.negSucc 0) (Int.negSucc 0) (O 0)=quM y w l)
  (nN [(3,.pf (Int.negSucc 0=Int.negSucc 0) rfl),(1,.eqI 0 0)] V.ok))
  (U (Qu.mk (i64.wrap (i64.wrap (y.qu+i64.wrap (w*i64.wrap (y.L*i64.wrap (O 2+y.D))))+i64.wrap (l*i64.wrap (O 2+y.D)))) (i64.wrap (i64.wrap (i64.wrap (y.qu+i64.wrap (w*i64.wrap (y.L*i64.wrap (O 2+y.D))))+i64.wrap (l*i64.wrap (O 2+y.D)))+O 1)) (i64.wrap (i64.wrap (i64.wrap (y.qu+i64.wrap (w*i64.wrap (y.L*i64.wrap (O 2+y.D))))+i64.wrap (l*i64.wrap (O 2+y.D)))+O 2)) y.D=quM y w l)
  (nN [(1,.pf (i64.wrap (i64.wrap (y.qu+i64.wrap (w*i64.wrap (y.L*i64.wrap (O 2+y.D))))+i64.wrap (l*i64.wrap (O 2+y.D)))=i64.wrap (i64.wrap (y.qu+i64.wrap (w*i64.wrap (y.L*i64.wrap (O 2+y.D))))+i64.wrap (l*i64.wrap (O 2+y.D)))) rfl),(1,.pf (i64.wrap (i64.wrap (i64.wrap (y.qu+i64.wrap (w*i64.wrap (y.L*i64.wrap (O 2+y.D))))+i64.wrap (l*i64.wrap (O 2+y.D)))+O 1)=i64.wrap (i64.wrap (i64.wrap (y.qu+i64.wrap (w*i64.wrap (y.L*i64.wrap (O 2+y.D))))+i64.wrap (l*i64.wrap (O 2+y.D)))+O 1)) rfl),(1,.pf (i64.wrap (i64.wrap (i64.wrap (y.qu+i64.wrap (w*i64.wrap (y.L*i64.wrap (O 2+y.D))))+i64.wrap (l*i64.wrap (O 2+y.D)))+O 2)=i64.wrap (i64.wrap (i64.wrap (y.qu+i64.wrap (w*i64.wrap (y.L*i64.wrap (O 2+y.D))))+i64.wrap (l*i64.wrap (O 2+y.D)))+O 2)) rfl),(1,.pf (y.D=y.D) rfl)] V.ok))))))):=by kernel_rfl
structure Ly.small (y:Ly):Prop where
 W:0<=y.W/\y.W<=16
 L:0<=y.L/\y.L<=64
 D:0<=y.D/\y.D<=64
 q:0<=y.qu/\y.qu<=1000
theorem Ly.small.q3{y:Ly}(h:y.small):0<=y.L*(2+y.D)/\y.L*(2+y.D)<=4224:=mulB (A:=64) (B:=66) h.L.1 h.L.2 (by have:=h.D;omega) (by have:=h.D;omega)
theorem Ly.small.q1{y:Ly}(h:y.small){w:Int}(h0:0<=w)(h1:w<y.W):0<=w*(y.L*(2+y.D))/\w*(y.L*(2+y.D))<=16*4224:=mulB h0 (by have:=h.W;omega) h.q3.1 h.q3.2
theorem Ly.small.q2{y:Ly}(h:y.small){l:Int}(h0:0<=l)(h1:l<y.L):0<=l*(2+y.D)/\l*(2+y.D)<=64*66:=mulB h0 (by have:=h.L;omega) (by have:=h.D;omega) (by have:=h.D;omega)
theorem vhQuT{y:Ly}{w l:Int}(h:y.small):zac (vQuT y w l):=by
 have hD:=h.D
 have hq:=h.q
 have h3:=h.q3
 have h1:=fun a b=>h.q1 (w:=w) a b
 have h2:=fun a b=>h.q2 (l:=l) a b
 constructor
 rw[vQuT_eq]
 simp only[Z,Int.cast_ofNat_Int]
 have e1:i64.wrap (2+y.D)=2+y.D:=w64 (by omega)
 have e2:i64.wrap (y.L*(2+y.D))=y.L*(2+y.D):=w64 (by omega)
 simp only[e1,e2]
 by_cases hc:(w<0\/y.W<=w)\/(l<0\/y.L<=l)
 ·have e:quM y w l=⟨-1,-1,-1,0⟩:=by unfold quM;rw[if_pos hc]
  rw[e]
  by_cases hw:w<0\/y.W<=w
  ·(with_reducible repeat' first|exact V.okI|refine V.brT ?_|refine V.brF ?_|refine V.brI ?_ ?_|refine V.anyI ?_|refine nN_h rfl ?_|refine V.needI ?_ ?_|intro _)
   all_goals (simp only[decide_eq_true_eq,decide_eq_false_iff_not,Z,Bool.not_eq_true',Bool.not_eq_false',ge_iff_le,gt_iff_lt,Bool.and_eq_true,Bool.or_eq_true,Bool.not_eq_true,Bool.and_eq_false_iff]at *)
   all_goals first|omega|rfl|trace_state
  ·have e3:i64.wrap (w*(y.L*(2+y.D)))=w*(y.L*(2+y.D)):=by have:=h1 (by omega) (by omega);exact w64 (by omega)
   have e5:i64.wrap (y.qu+w*(y.L*(2+y.D)))=y.qu+w*(y.L*(2+y.D)):=by have:=h1 (by omega) (by omega);exact w64 (by omega)
   have:=h1 (by omega) (by omega)
   simp only[e3,e5]
   generalize w*(y.L*(2+y.D))=A at *
   (with_reducible repeat' first|exact V.okI|refine V.brT ?_|refine V.brF ?_|refine V.brI ?_ ?_|refine V.anyI ?_|refine nN_h rfl ?_|refine V.needI ?_ ?_|intro _)
   all_goals (simp only[decide_eq_true_eq,decide_eq_false_iff_not,Z,Bool.not_eq_true',Bool.not_eq_false',ge_iff_le,gt_iff_lt,Bool.and_eq_true,Bool.or_eq_true,Bool.not_eq_true,Bool.and_eq_false_iff]at *)
   all_goals first|omega|rfl|trace_state
 ·have e:quM y w l=⟨y.qu+w*(y.L*(2+y.D))+l*(2+y.D),y.qu+w*(y.L*(2+y.D))+l*(2+y.D)+1,y.qu+w*(y.L*(2+y.D))+l*(2+y.D)+2,y.D⟩:=by unfold quM;rw[if_neg hc]
  have h1:=h1 (by omega) (by omega)
  have h2:=h2 (by omega) (by omega)
  have e3:i64.wrap (w*(y.L*(2+y.D)))=w*(y.L*(2+y.D)):=w64 (by omega)
  have e4:i64.wrap (l*(2+y.D))=l*(2+y.D):=w64 (by omega)
  have e5:i64.wrap (y.qu+w*(y.L*(2+y.D)))=y.qu+w*(y.L*(2+y.D)):=w64 (by omega)
  have e6:i64.wrap (y.qu+w*(y.L*(2+y.D))+l*(2+y.D))=y.qu+w*(y.L*(2+y.D))+l*(2+y.D):=w64 (by omega)
  rw[e]
  simp only[e3,e4,e5,e6]
  have e7:i64.wrap (y.qu+w*(y.L*(2+y.D))+l*(2+y.D)+1)=y.qu+w*(y.L*(2+y.D))+l*(2+y.D)+1:=w64 (by omega)
  have e8:i64.wrap (y.qu+w*(y.L*(2+y.D))+l*(2+y.D)+2)=y.qu+w*(y.L*(2+y.D))+l*(2+y.D)+2:=w64 (by omega)
  simp only[e7,e8]
  generalize w*(y.L*(2+y.D))=A at *
  generalize l*(2+y.D)=B at *
  (with_reducible repeat' first|exact V.okI|refine V.brT ?_|refine V.brF ?_|refine V.brI ?_ ?_|refine V.anyI ?_|refine nN_h rfl ?_|refine V.needI ?_ ?_|intro _)
  all_goals (simp only[decide_eq_true_eq,decide_eq_false_iff_not,Z,Bool.not_eq_true',Bool.not_eq_false',ge_iff_le,gt_iff_lt,Bool.and_eq_true,Bool.or_eq_true,Bool.not_eq_true,Bool.and_eq_false_iff]at *)
  all_goals first|omega|rfl|trace_state
noncomputable section
end
end Go.Proofs.YtjgldffneablmaaGreat.Md
