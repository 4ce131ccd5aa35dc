/- A part of the proof. -/
import Derived.Test.YtabiechfpefjhaaGreatMMdLoD
import Derived.Test.YtabiechfpefjhaaGreatMW
set_option linter.unusedVariables false
set_option linter.unusedSimpArgs false
set_option maxRecDepth 100000
namespace Go.Proofs.YtabiechfpefjhaaGreat.Md
open Go Go.RowKit Sx Cn Dc Ck Vc
theorem vAtT_eq(i n f w:Int):vAtT i n f w=
 V.br (decide (i<Int.ofNat 0))
  (V.need (Int.negSucc 0=atM i n f w)
  (nN [(1,.pf (Int.negSucc 0=Int.negSucc 0) rfl)] V.ok))
  (V.br (decide (i >= n))
  (V.need (Int.negSucc 0=atM i n f w)
  (nN [(1,.pf (Int.negSucc 0=Int.negSucc 0) rfl)] V.ok))
  (V.need (IntKind.i64.wrap (f+IntKind.i64.wrap (i*w))=atM i n f w)
  (nN [(1,.pf (IntKind.i64.wrap (f+IntKind.i64.wrap (i*w))=IntKind.i64.wrap (f+IntKind.i64.wrap (i*w))) rfl)] V.ok))):=by kernel_rfl
def okAtT(i n f w:Int):Prop:=(0<=i->i<n->0<=i*w/\i*w<=1000000)/\0<=f/\f<=1000000
theorem vhAtT{i n f w:Int}(h:okAtT i n f w):zad (vAtT i n f w):=by
 constructor
 rw[vAtT_eq]
 by_cases hi:i<0\/n<=i
 ·have e:atM i n f w=-1:=by unfold atM;rw[if_pos hi]
  rw[e]
  (with_reducible repeat' first|exact V.okI|refine V.brT ?_|refine V.brF ?_|refine V.brI ?_ ?_|refine V.anyI ?_|refine nN_h rfl ?_|refine V.needI ?_ ?_|intro _)
  all_goals (simp only[decide_eq_true_eq,decide_eq_false_iff_not,Int.ofNat_eq_natCast,Bool.not_eq_true',Bool.not_eq_false',ge_iff_le,gt_iff_lt,Bool.and_eq_true,Bool.or_eq_true,Bool.not_eq_true,Bool.and_eq_false_iff]at *)
  all_goals first|omega|rfl|trace_state
 ·have e:atM i n f w=f+i*w:=by unfold atM;rw[if_neg hi]
  obtain⟨h1,h2,h3⟩:=h
  have h1:=h1 (by omega) (by omega)
  rw[e,w64 (show _ by omega:-9223372036854775808<=i*w/\i*w<=9223372036854775807),w64 (by omega)]
  (with_reducible repeat' first|exact V.okI|refine V.brT ?_|refine V.brF ?_|refine V.brI ?_ ?_|refine V.anyI ?_|refine nN_h rfl ?_|refine V.needI ?_ ?_|intro _)
  all_goals (simp only[decide_eq_true_eq,decide_eq_false_iff_not,Int.ofNat_eq_natCast,Bool.not_eq_true',Bool.not_eq_false',ge_iff_le,gt_iff_lt,Bool.and_eq_true,Bool.or_eq_true,Bool.not_eq_true,Bool.and_eq_false_iff]at *)
  all_goals first|omega|rfl|trace_state
structure Ly.small (y:Ly):Prop where
 W:0<=y.W/\y.W<=16
 L:0<=y.L/\y.L<=64
 D:0<=y.D/\y.D<=64
 q:0<=y.qu/\y.qu<=1000
theorem Ly.small.q3{y:Ly}(h:y.small):0<=y.L*(2+y.D)/\y.L*(2+y.D)<=4224:=mulB (A:=64) (B:=66) h.L.1 h.L.2 (by have:=h.D;omega) (by have:=h.D;omega)
theorem Ly.small.q1{y:Ly}(h:y.small){w:Int}(h0:0<=w)(h1:w<y.W):0<=w*(y.L*(2+y.D))/\w*(y.L*(2+y.D))<=16*4224:=mulB h0 (by have:=h.W;omega) h.q3.1 h.q3.2
theorem Ly.small.q2{y:Ly}(h:y.small){l:Int}(h0:0<=l)(h1:l<y.L):0<=l*(2+y.D)/\l*(2+y.D)<=64*66:=mulB h0 (by have:=h.L;omega) (by have:=h.D;omega) (by have:=h.D;omega)
noncomputable section
def tAt:List SV->Hp->Out (SV×Hp):=numF fAt fun l=>match l with
 | [i,n,f,w]=>useP [] 0 [iv i,iv n,iv f,iv w] [] (outR .i64 (okAtT i n f w) (atM i n f w))
 | _=>fun _ _=>.bad 484
theorem tAt_ok:zab P fAt tAt:=zfv fun l args H=>by
 repeat' split
 all_goals first|exact .inl ⟨_,rfl⟩|exact .inr ⟨_,_,_,_,_,rfl,zae zaj.nil fun h=>vhAtT h⟩
def conT(c:Con):Con:=Con.add fAt tAt (Con.add fDr cDr (conN c))
theorem conT_ok{c:Con}(h:zaj P c):zaj P (conT c):=.add tAt_ok (.add cDr_ok (conN_ok h))
end
end Go.Proofs.YtabiechfpefjhaaGreat.Md
