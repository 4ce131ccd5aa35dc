/- A part of the proof. -/
import Derived.Test.YtabiechfpefjhaaGreatMMdPcD
import Derived.Test.YtabiechfpefjhaaGreatMW
import Derived.Test.YtabiechfpefjhaaGreatMV
import Derived.Test.YtabiechfpefjhaaGreatMMd
import Derived.Test.YtabiechfpefjhaaGreatMMdLo
set_option linter.unusedVariables false
set_option linter.unusedSimpArgs false
set_option maxRecDepth 100000
open Go.IntKind (i64 u64)
open Int renaming ofNat -> O, ofNat_eq_natCast -> zz
open Go.Proofs.YtabiechfpefjhaaGreat.Sx.V renaming need -> U
namespace Go.Proofs.YtabiechfpefjhaaGreat.Md
open Go Go.RowKit Sx Cn Dc Ck Vc
theorem vHg_eq(x:Int):V.pr .z (vHg x)=
 U (O 0<=x/\x<=O 18446744073709551615)
  (U True
  (U (i64.wrap ((↑(Lib.bitLen x.toNat):Int)-O 1)=hiB x) V.ok)):=by kernel_rfl
theorem vMo_eq(a n:Int):V.pr .z (vMo a n)=
 V.br (decide (n<O 1))
  (U True
  (U (O 0=dr a n) V.ok))
  (U (n≠O 0)
  (V.br (decide (a.tmod n<O 0))
  (U True
  (U (i64.wrap (a.tmod n+n)=dr a n) V.ok))
  (U True
  (U (a.tmod n=dr a n) V.ok)))):=by kernel_rfl
theorem vCh_eq(B:Nat->Int)(n cap:Nat)(self s:Int):V.pr .z (vCh B n cap self s)=
 U (O 0<=O 0/\O 0<=(↑n:Int))
  (nN [(1,.eqI 0 0)]
  (U (Int.negSucc 0=-O 1)
  (U (Int.negSucc 0=-O 1)
  (V.any Int (fun (x:Int)=>O 0<=x/\x<=(↑n:Int)) fun (x:Int)=>V.br (decide (x<(↑n:Int)))
  (nN [qE s,qE ((↑n:Int))]
  (U ((↑n:Int)<=O 9223372036854775807)
  (U ((↑n:Int)≠O 0)
  (U (O 0<=(i64.wrap (dr s (↑n:Int)+x)).tmod (↑n:Int)/\(i64.wrap (dr s (↑n:Int)+x)).tmod (↑n:Int)<(↑n:Int))
  (U (0<1/\0+((i64.wrap (dr s (↑n:Int)+x)).tmod (↑n:Int)).toNat<n)
  (U (0<1/\0+((i64.wrap (dr s (↑n:Int)+x)).tmod (↑n:Int)).toNat<n)
  (nN [qE (B (0+((i64.wrap (dr s (↑n:Int)+x)).tmod (↑n:Int)).toNat))]
  (U (O 0<=B (0+((i64.wrap (dr s (↑n:Int)+x)).tmod (↑n:Int)).toNat)/\B (0+((i64.wrap (dr s (↑n:Int)+x)).tmod (↑n:Int)).toNat)<=O 18446744073709551615)
  (V.br ((i64.wrap (dr s (↑n:Int)+x)).tmod (↑n:Int) != self)
  (V.br (decide (hiB (B (0+((i64.wrap (dr s (↑n:Int)+x)).tmod (↑n:Int)).toNat))>(zas B (↑n:Int) self (dr s (↑n:Int)) x.toNat).snd))
  (U (O 0<=i64.wrap (x+O 1)/\i64.wrap (x+O 1)<=(↑n:Int))
  (U (n-(i64.wrap (x+O 1)).toNat<n-x.toNat)
  (nN [qE (i64.wrap (x+O 1))]
  (U ((i64.wrap (dr s (↑n:Int)+x)).tmod (↑n:Int)=(zas B (↑n:Int) self (dr s (↑n:Int)) (i64.wrap (x+O 1)).toNat).fst)
  (U (hiB (B (0+((i64.wrap (dr s (↑n:Int)+x)).tmod (↑n:Int)).toNat))=(zas B (↑n:Int) self (dr s (↑n:Int)) (i64.wrap (x+O 1)).toNat).snd) V.ok)))))
  (U (O 0<=i64.wrap (x+O 1)/\i64.wrap (x+O 1)<=(↑n:Int))
  (U (n-(i64.wrap (x+O 1)).toNat<n-x.toNat)
  (nN [qE (i64.wrap (x+O 1))]
  (U ((zas B (↑n:Int) self (dr s (↑n:Int)) x.toNat).fst=(zas B (↑n:Int) self (dr s (↑n:Int)) (i64.wrap (x+O 1)).toNat).fst)
  (U ((zas B (↑n:Int) self (dr s (↑n:Int)) x.toNat).snd=(zas B (↑n:Int) self (dr s (↑n:Int)) (i64.wrap (x+O 1)).toNat).snd) V.ok))))))
  (U (O 0<=i64.wrap (x+O 1)/\i64.wrap (x+O 1)<=(↑n:Int))
  (U (n-(i64.wrap (x+O 1)).toNat<n-x.toNat)
  (nN [qE (i64.wrap (x+O 1))]
  (U ((zas B (↑n:Int) self (dr s (↑n:Int)) x.toNat).fst=(zas B (↑n:Int) self (dr s (↑n:Int)) (i64.wrap (x+O 1)).toNat).fst)
  (U ((zas B (↑n:Int) self (dr s (↑n:Int)) x.toNat).snd=(zas B (↑n:Int) self (dr s (↑n:Int)) (i64.wrap (x+O 1)).toNat).snd) V.ok))))))))))))))
  (U True
  (U ((zas B (↑n:Int) self (dr s (↑n:Int)) x.toNat).fst=(zas B (↑n:Int) self (dr s (↑n:Int)) n).fst)
  (U ((zas B (↑n:Int) self (dr s (↑n:Int)) x.toNat).snd=(zas B (↑n:Int) self (dr s (↑n:Int)) n).snd) V.ok))))))):=by kernel_rfl
theorem vChO_eq(p:Pr)(A:A16)(n:Nat)(self s:Int):V.pr .z (vChO p A n self s)=
 U (O 0<=O 0/\O 0<=(↑n:Int))
  (nN [(1,.eqI 0 0)]
  (U (Int.negSucc 0=-O 1)
  (U (Int.negSucc 0=-O 1)
  (nN [qE p.e,qE p.co,qE p.va,qE p.w,qE p.b,qE p.st,qE p.nx,qE A.a0,qE A.a1,qE A.a2,qE A.a3,qE A.a4,qE A.a5,qE A.a6,qE A.a7,qE A.a8,qE A.a9,qE A.a10,qE A.a11,qE A.a12,qE A.a13,qE A.a14,qE A.a15]
  (V.any Int (fun (x:Int)=>O 0<=x/\x<=(↑n:Int)) fun (x:Int)=>V.br (decide (x<(↑n:Int)))
  (nN [qE s,qE ((↑n:Int))]
  (U ((↑n:Int)<=O 9223372036854775807)
  (U ((↑n:Int)≠O 0)
  (U (O 0<=(i64.wrap (dr s (↑n:Int)+x)).tmod (↑n:Int)/\(i64.wrap (dr s (↑n:Int)+x)).tmod (↑n:Int)<(↑n:Int))
  (U (((i64.wrap (dr s (↑n:Int)+x)).tmod (↑n:Int)).toNat < [A.a0,A.a1,A.a2,A.a3,A.a4,A.a5,A.a6,A.a7,A.a8,A.a9,A.a10,A.a11,A.a12,A.a13,A.a14,A.a15].length)
  (nN [qE (numL [A.a0,A.a1,A.a2,A.a3,A.a4,A.a5,A.a6,A.a7,A.a8,A.a9,A.a10,A.a11,A.a12,A.a13,A.a14,A.a15] ((i64.wrap (dr s (↑n:Int)+x)).tmod (↑n:Int)).toNat)]
  (U (O 0<=numL [A.a0,A.a1,A.a2,A.a3,A.a4,A.a5,A.a6,A.a7,A.a8,A.a9,A.a10,A.a11,A.a12,A.a13,A.a14,A.a15] ((i64.wrap (dr s (↑n:Int)+x)).tmod (↑n:Int)).toNat/\numL [A.a0,A.a1,A.a2,A.a3,A.a4,A.a5,A.a6,A.a7,A.a8,A.a9,A.a10,A.a11,A.a12,A.a13,A.a14,A.a15] ((i64.wrap (dr s (↑n:Int)+x)).tmod (↑n:Int)).toNat<=O 18446744073709551615)
  (V.br ((i64.wrap (dr s (↑n:Int)+x)).tmod (↑n:Int) != self)
  (V.br (decide (hiB (numL [A.a0,A.a1,A.a2,A.a3,A.a4,A.a5,A.a6,A.a7,A.a8,A.a9,A.a10,A.a11,A.a12,A.a13,A.a14,A.a15] ((i64.wrap (dr s (↑n:Int)+x)).tmod (↑n:Int)).toNat)>(zas A.get (↑n:Int) self (dr s (↑n:Int)) x.toNat).snd))
  (U (O 0<=i64.wrap (x+O 1)/\i64.wrap (x+O 1)<=(↑n:Int))
  (U (n-(i64.wrap (x+O 1)).toNat<n-x.toNat)
  (nN [qE (i64.wrap (x+O 1))]
  (U ((i64.wrap (dr s (↑n:Int)+x)).tmod (↑n:Int)=(zas A.get (↑n:Int) self (dr s (↑n:Int)) (i64.wrap (x+O 1)).toNat).fst)
  (U (hiB (numL [A.a0,A.a1,A.a2,A.a3,A.a4,A.a5,A.a6,A.a7,A.a8,A.a9,A.a10,A.a11,A.a12,A.a13,A.a14,A.a15] ((i64.wrap (dr s (↑n:Int)+x)).tmod (↑n:Int)).toNat)=(zas A.get (↑n:Int) self (dr s (↑n:Int)) (i64.wrap (x+O 1)).toNat).snd)
  (nN [qE p.e,qE p.co,qE p.va,qE p.w,qE p.b,qE p.st,qE p.nx,qE A.a0,qE A.a1,qE A.a2,qE A.a3,qE A.a4,qE A.a5,qE A.a6,qE A.a7,qE A.a8,qE A.a9,qE A.a10,qE A.a11,qE A.a12,qE A.a13,qE A.a14,qE A.a15] V.ok))))))
  (U (O 0<=i64.wrap (x+O 1)/\i64.wrap (x+O 1)<=(↑n:Int))
  (U (n-(i64.wrap (x+O 1)).toNat<n-x.toNat)
  (nN [qE (i64.wrap (x+O 1))]
  (U ((zas A.get (↑n:Int) self (dr s (↑n:Int)) x.toNat).fst=(zas A.get (↑n:Int) self (dr s (↑n:Int)) (i64.wrap (x+O 1)).toNat).fst)
  (U ((zas A.get (↑n:Int) self (dr s (↑n:Int)) x.toNat).snd=(zas A.get (↑n:Int) self (dr s (↑n:Int)) (i64.wrap (x+O 1)).toNat).snd)
  (nN [qE p.e,qE p.co,qE p.va,qE p.w,qE p.b,qE p.st,qE p.nx,qE A.a0,qE A.a1,qE A.a2,qE A.a3,qE A.a4,qE A.a5,qE A.a6,qE A.a7,qE A.a8,qE A.a9,qE A.a10,qE A.a11,qE A.a12,qE A.a13,qE A.a14,qE A.a15] V.ok)))))))
  (U (O 0<=i64.wrap (x+O 1)/\i64.wrap (x+O 1)<=(↑n:Int))
  (U (n-(i64.wrap (x+O 1)).toNat<n-x.toNat)
  (nN [qE (i64.wrap (x+O 1))]
  (U ((zas A.get (↑n:Int) self (dr s (↑n:Int)) x.toNat).fst=(zas A.get (↑n:Int) self (dr s (↑n:Int)) (i64.wrap (x+O 1)).toNat).fst)
  (U ((zas A.get (↑n:Int) self (dr s (↑n:Int)) x.toNat).snd=(zas A.get (↑n:Int) self (dr s (↑n:Int)) (i64.wrap (x+O 1)).toNat).snd)
  (nN [qE p.e,qE p.co,qE p.va,qE p.w,qE p.b,qE p.st,qE p.nx,qE A.a0,qE A.a1,qE A.a2,qE A.a3,qE A.a4,qE A.a5,qE A.a6,qE A.a7,qE A.a8,qE A.a9,qE A.a10,qE A.a11,qE A.a12,qE A.a13,qE A.a14,qE A.a15] V.ok))))))))))))))
  (U True
  (U ((zas A.get (↑n:Int) self (dr s (↑n:Int)) x.toNat).fst=(zas A.get (↑n:Int) self (dr s (↑n:Int)) n).fst)
  (U ((zas A.get (↑n:Int) self (dr s (↑n:Int)) x.toNat).snd=(zas A.get (↑n:Int) self (dr s (↑n:Int)) n).snd)
  (nN [qE p.e,qE p.co,qE p.va,qE p.w,qE p.b,qE p.st,qE p.nx,qE A.a0,qE A.a1,qE A.a2,qE A.a3,qE A.a4,qE A.a5,qE A.a6,qE A.a7,qE A.a8,qE A.a9,qE A.a10,qE A.a11,qE A.a12,qE A.a13,qE A.a14,qE A.a15] V.ok))))))))):=by kernel_rfl
theorem vhHg{x:Int}(h0:0<=x/\x<=18446744073709551615):zad (vHg x):=by
 refine zad.pr (vHg_eq ..) ?_
 (with_reducible repeat' first|exact V.okI|refine V.brT ?_|refine V.brF ?_|refine V.brI ?_ ?_|refine V.anyI ?_|refine nN_h rfl ?_|refine V.needI ?_ ?_|intro _)
 all_goals first
  | exact h0
  | trivial
  | rfl
  | trace_state
theorem dr_b{a n:Int}(h:1<=n):0<=dr a n/\dr a n<n:=by
 unfold dr
 rw[if_neg (by omega)]
 exact⟨Int.emod_nonneg _ (by omega),Int.emod_lt_of_pos _ (by omega)⟩
theorem vhMo{a n:Int}(h:n<=9223372036854775807):zad (vMo a n):=by
 refine zad.pr (vMo_eq ..) ?_
 by_cases hn:n<1
 ·have e:dr a n=0:=by unfold dr;rw[if_pos hn]
  rw[e]
  (with_reducible repeat' first|exact V.okI|refine V.brT ?_|refine V.brF ?_|refine V.brI ?_ ?_|refine V.anyI ?_|refine nN_h rfl ?_|refine V.needI ?_ ?_|intro _)
  all_goals (simp only[decide_eq_true_eq,decide_eq_false_iff_not,zz,Bool.not_eq_true',Bool.not_eq_false',ge_iff_le,gt_iff_lt,Bool.and_eq_true,Bool.or_eq_true,Bool.not_eq_true,Bool.and_eq_false_iff]at *)
  all_goals first|omega|rfl|trace_state
 ·have e:dr a n=a % n:=by unfold dr;rw[if_neg hn]
  have e2:=Int.emod_def a n
  have e3:=Int.emod_nonneg a (show n≠0 by omega)
  have e4:=Int.emod_lt_of_pos a (show 0<n by omega)
  have e5:a.tmod n=a % n\/(a.tmod n=a % n-n):=by
   rw[Int.tmod_eq_emod]
   split
   ·left;simp
   ·right;omega
  have e6:a.tmod n<0->i64.wrap (a.tmod n+n)=a % n:=fun hlt=>by
   rcases e5 with e5|e5
   ·omega
   ·rw[w64 (by omega)];omega
  have e7:¬a.tmod n<0->a.tmod n=a % n:=fun hlt=>by
   rcases e5 with e5|e5<;>omega
  rw[e]
  (with_reducible repeat' first|exact V.okI|refine V.brT ?_|refine V.brF ?_|refine V.brI ?_ ?_|refine V.anyI ?_|refine nN_h rfl ?_|refine V.needI ?_ ?_|intro _)
  all_goals (simp only[decide_eq_true_eq,decide_eq_false_iff_not,zz,Bool.not_eq_true',Bool.not_eq_false',ge_iff_le,gt_iff_lt,Bool.and_eq_true,Bool.or_eq_true,Bool.not_eq_true,Bool.and_eq_false_iff]at *)
  all_goals first|omega|(exact e6 (by omega))|(exact e7 (by omega))|rfl|trace_state
section
variable {B:Nat->Int} {n:Nat} {self s x v w:Int}
theorem ch_v(hn:n<=1000000)(h:0<=x/\x<=n)(hx:decide (x<(n:Int))=true):(i64.wrap (dr s n+x)).tmod n=chV n (dr s n) x.toNat:=by
 have hx:=of_decide_eq_true hx
 have hd:=dr_b (a:=s) (n:=(n:Int)) (by omega)
 rw[w64 (by omega),Int.tmod_eq_emod_of_nonneg (by omega)]
 unfold chV
 rw[Int.toNat_of_nonneg h.1]
theorem ch_n(hn:n<=1000000)(h:0<=x/\x<=n)(hx:decide (x<(n:Int))=true):(i64.wrap (x+O 1)).toNat=x.toNat+1:=by
 have hx:=of_decide_eq_true hx
 rw[show i64.wrap (x+O 1)=x+1 from w64 (by simp only[zz];omega)]
 omega
theorem ch_s(hn:n<=1000000)(h:0<=x/\x<=n)(hx:decide (x<(n:Int))=true):O 0<=i64.wrap (x+O 1)/\i64.wrap (x+O 1)<=n:=by
 have hx:=of_decide_eq_true hx
 rw[show i64.wrap (x+O 1)=x+1 from w64 (by simp only[zz];omega)]
 simp only[zz]
 omega
theorem ch_m(hn:n<=1000000)(h:0<=x/\x<=n)(hx:decide (x<(n:Int))=true):n-(i64.wrap (x+O 1)).toNat<n-x.toNat:=by
 rw[ch_n hn h hx]
 have hx:=of_decide_eq_true hx
 omega
theorem ch_b(hn:n<=1000000)(h:0<=x/\x<=n)(hx:decide (x<(n:Int))=true):O 0<=(i64.wrap (dr s n+x)).tmod n/\(i64.wrap (dr s n+x)).tmod n<n:=by
 rw[ch_v hn h hx]
 have hx:=of_decide_eq_true hx
 exact chV_bd (by omega) _
theorem ch_i(hn:n<=1000000)(h:0<=x/\x<=n)(hx:decide (x<(n:Int))=true):0+((i64.wrap (dr s n+x)).tmod n).toNat<n:=by
 have:=ch_b (s:=s) hn h hx
 simp only[zz]at this
 omega
theorem ch_yes(hn:n<=1000000)(h:0<=x/\x<=n)(hx:decide (x<(n:Int))=true)(hw:w=B ((i64.wrap (dr s n+x)).tmod n).toNat)(h1:((i64.wrap (dr s n+x)).tmod n != self)=true)(h2:decide (hiB w>(zas B n self (dr s n) x.toNat).2)=true):
  zas B n self (dr s n) (i64.wrap (x+O 1)).toNat=((i64.wrap (dr s n+x)).tmod n,hiB w):=by
 rw[ch_n hn h hx]
 rw[ch_v hn h hx]at h1 hw ⊢
 show zgf _ _ _ _=_
 rw[<-hw]
 unfold zgf
 rw[if_pos ⟨by simpa using h1,of_decide_eq_true h2⟩]
theorem ch_no1(hn:n<=1000000)(h:0<=x/\x<=n)(hx:decide (x<(n:Int))=true)(h1:((i64.wrap (dr s n+x)).tmod n != self)=false):
  zas B n self (dr s n) (i64.wrap (x+O 1)).toNat=zas B n self (dr s n) x.toNat:=by
 rw[ch_n hn h hx]
 rw[ch_v hn h hx]at h1
 show zgf _ _ _ _=_
 unfold zgf
 rw[if_neg (fun q=>q.1 (by simpa using h1))]
theorem ch_no2(hn:n<=1000000)(h:0<=x/\x<=n)(hx:decide (x<(n:Int))=true)(hw:w=B ((i64.wrap (dr s n+x)).tmod n).toNat)(h2:decide (hiB w>(zas B n self (dr s n) x.toNat).2)=false):
  zas B n self (dr s n) (i64.wrap (x+O 1)).toNat=zas B n self (dr s n) x.toNat:=by
 rw[ch_n hn h hx]
 rw[ch_v hn h hx]at hw
 show zgf _ _ _ _=_
 rw[<-hw]
 unfold zgf
 rw[if_neg (fun q=>of_decide_eq_false h2 q.2)]
theorem ch_e(h:0<=x/\x<=n)(hx:decide (x<(n:Int))=false):x.toNat=n:=by have:=of_decide_eq_false hx;omega
end
theorem ch_j{n:Nat}{s x:Int}(hn:n<=1000000)(h:0<=x/\x<=n)(hx:decide (x<(n:Int))=true):((i64.wrap (dr s n+x)).tmod n).toNat<n:=by have:=ch_i (s:=s) hn h hx;omega
theorem vhCh{B:Nat->Int}{n cap:Nat}{self s:Int}(hn:n<=1000000)(hB:∀j,j<n->0<=B j/\B j<=18446744073709551615):zad (vCh B n cap self s):=by
 refine zad.pr (vCh_eq ..) ?_
 (with_reducible repeat' first|exact V.okI|refine V.brT ?_|refine V.brF ?_|refine V.brI ?_ ?_|refine V.anyI ?_|refine nN_h rfl ?_|refine V.needI ?_ ?_|intro _)
 all_goals try simp only[Nat.zero_add]at *
 all_goals first
  | exact True.intro
  | exact⟨Int.le_refl _,Int.natCast_nonneg _⟩
  | rfl
  | (simp only[zz];omega)
  | exact ch_b hn ‹_› ‹_›
  | exact⟨Nat.zero_lt_one,ch_j hn ‹_› ‹_›⟩
  | exact ch_s hn ‹_› ‹_›
  | exact ch_m hn ‹_› ‹_›
  | exact hB _ (ch_j hn ‹_› ‹_›)
  | exact congrArg Prod.fst (ch_yes hn ‹_› ‹_› rfl ‹_› ‹_›).symm
  | exact congrArg Prod.snd (ch_yes hn ‹_› ‹_› rfl ‹_› ‹_›).symm
  | exact congrArg Prod.fst (ch_no2 hn ‹_› ‹_› rfl ‹_›).symm
  | exact congrArg Prod.snd (ch_no2 hn ‹_› ‹_› rfl ‹_›).symm
  | exact congrArg Prod.fst (ch_no1 hn ‹_› ‹_› ‹_›).symm
  | exact congrArg Prod.snd (ch_no1 hn ‹_› ‹_› ‹_›).symm
  | (have e9:=ch_e ‹_› ‹_›;rw[e9])
  | (have hx9:decide (_<(n:Int))=true:=‹_›;have:=of_decide_eq_true hx9;omega)
  | trace_state
theorem vhChO{p:Pr}{A:A16}{n:Nat}{self s:Int}(h16:n<=16)(hB:∀j,j<n->0<=A.get j/\A.get j<=18446744073709551615):zad (vChO p A n self s):=by
 have hn:n<=1000000:=by omega
 refine zad.pr (vChO_eq ..) ?_
 (with_reducible repeat' first|exact V.okI|refine V.brT ?_|refine V.brF ?_|refine V.brI ?_ ?_|refine V.anyI ?_|refine nN_h rfl ?_|refine V.needI ?_ ?_|intro _)
 all_goals first
  | exact True.intro
  | exact⟨Int.le_refl _,Int.natCast_nonneg _⟩
  | rfl
  | (simp only[zz];omega)
  | exact ch_b hn ‹_› ‹_›
  | exact⟨Nat.zero_lt_one,ch_j hn ‹_› ‹_›⟩
  | exact ch_s hn ‹_› ‹_›
  | exact ch_m hn ‹_› ‹_›
  | exact Nat.lt_of_lt_of_le (ch_j hn ‹_› ‹_›) h16
  | exact hB _ (ch_j hn ‹_› ‹_›)
  | exact congrArg Prod.fst (ch_yes hn ‹_› ‹_› rfl ‹_› ‹_›).symm
  | exact congrArg Prod.snd (ch_yes hn ‹_› ‹_› rfl ‹_› ‹_›).symm
  | exact congrArg Prod.fst (ch_no2 hn ‹_› ‹_› rfl ‹_›).symm
  | exact congrArg Prod.snd (ch_no2 hn ‹_› ‹_› rfl ‹_›).symm
  | exact congrArg Prod.fst (ch_no1 hn ‹_› ‹_› ‹_›).symm
  | exact congrArg Prod.snd (ch_no1 hn ‹_› ‹_› ‹_›).symm
  | (have e9:=ch_e ‹_› ‹_›;rw[e9])
  | (have hx9:decide (_<(n:Int))=true:=‹_›;have:=of_decide_eq_true hx9;omega)
  | trace_state
noncomputable section
theorem cHg_ok:zab P fHg cHg:=zfv fun l args H=>by
 repeat' split
 all_goals first|exact .inl ⟨_,rfl⟩|exact .inr ⟨_,_,_,_,_,rfl,zai cnHg_ok fun h=>vhHg h⟩
theorem cMo_ok:zab P fMo cMo:=zfv fun l args H=>by
 repeat' split
 all_goals first|exact .inl ⟨_,rfl⟩|exact .inr ⟨_,_,_,_,_,rfl,zai zaj.nil fun h=>vhMo h⟩
theorem cnCh_ok:zaj P cnCh:=.add cHg_ok (.add cMo_ok zaj.nil)
theorem cChO_ok:zab P fCh cChO:=zac fun args H=>by
 unfold cChO
 simp only[fN_eq]
 repeat' split
 all_goals first|exact .inl ⟨_,rfl⟩|exact .inr ⟨_,_,_,_,_,rfl,zai cnCh_ok fun h=>vhChO h.1 h.2⟩
theorem cCh_ok:zab P fCh cCh:=zac fun args H=>by
 unfold cCh
 simp only[fN_eq]
 repeat' split
 all_goals first|exact .inl ⟨_,rfl⟩|exact .inr ⟨_,_,_,_,_,rfl,zai cnCh_ok fun h=>vhCh h.1 h.2⟩
end
end Go.Proofs.YtabiechfpefjhaaGreat.Md
