/- An environment copied; a configuration compared with one of the same contents: what is asked. -/
import Derived.Test.YtfkdlkidflgalaaGreatMEn
import Derived.Test.YtfkdlkidflgalaaGreatMMdRmD
import Derived.Test.YtfkdlkidflgalaaGreatMW
import Derived.Test.YtfkdlkidflgalaaGreatMV
import Derived.Test.YtfkdlkidflgalaaGreatMMd
set_option linter.unusedVariables false
set_option linter.unusedSimpArgs false
set_option maxRecDepth 100000
open Go.IntKind (i64 u64)
open Int renaming ofNat -> O
open Nat renaming zero_add -> z7
open Go.Proofs.YtfkdlkidflgalaaGreat.Sx.V renaming need -> U
namespace Go.Proofs.YtfkdlkidflgalaaGreat.En
open Go Go.RowKit Sx Cn Dc Ck Vc Md
noncomputable section
def fYr:FuncId:=36
def vYr (x:Rk) (c:Nat) (kc:Nat->Nat):V:=verF P con0 3 3 fYr [(1000000,.nilTmpO 2 62 7 (x.cols 1 kc))] .nil [.c (slK 0 7 x.n c)] ⟨[(0,x.rowV 1 kc),(1,x.famV)],2,fun _=>True⟩
 (finV (X:=Nat) 2 3 (fun s H=>match s with | .c (.slc _ _ _ _ _ c)=>some c.v | _=>none) (fun s _=>[match s with | .c x=>Sx.keyOf x | _=>0]) (fun c=>x.n<=c) (fun c=>.c (slK 2 7 x.n c)) (fun c=>[(2,x.row 1 kc c)]))
def fYe:FuncId:=37
def vYe (n cap:Nat) (v:Evs):V:=verF P con0 3 3 fYe [(1000000,.nilTmpO 2 24 5 v.cols)] .nil [.c (slK 0 5 n cap)] ⟨[(0,eV n v)],1,fun _=>True⟩
 (finV (X:=Nat) 1 2 (fun s H=>match s with | .c (.slc _ _ _ _ _ c)=>some c.v | _=>none) (fun s _=>[match s with | .c x=>Sx.keyOf x | _=>0]) (fun c=>n<=c) (fun c=>.c (slK 1 5 n c)) (fun c=>[(1,.row 24 c n v.cols)]))
def fYk:FuncId:=38
def vYk (i n c:Nat) (G:Nat->Nat->Int):V:=verF P con0 3 3 fYk [(1000000,.nilTmpO 2 3 1 [.ci .i64 fun _ e=>G i e])] .nil [.c (slI 0 i n c)] ⟨[(0,kV i n G)],1,fun _=>True⟩
 (finV (X:=Nat) 1 2 (fun s H=>match s with | .c (.slc _ _ _ _ _ c)=>some c.v | _=>none) (fun s _=>[match s with | .c x=>Sx.keyOf x | _=>0]) (fun c=>n<=c) (fun c=>.c (slK 1 1 n c)) (fun c=>[(1,.row 3 c n [.ci .i64 fun _ e=>G i e])]))
def fQc:FuncId:=18
def cI2 (t n:Nat):LA Int:=cntL t (fun x=>0<=x/\x<=n) n
def vQc (c:Cf) (rc cu:Nat) (FC:Nat->Nat):V:=verF P con0 3 4 fQc [] (.loop Int [] (fun _=>some (cI2 5 c.nP)) (.loop Int [] (fun s=>match tmI 5 s with | some i=>some (cI2 6 (c.lenP i.toNat)) | none=>none) .nil .nil) (.loop Int [] (fun _=>some (cI2 7 c.nU)) .nil .nil))
 [argCm 0 c,argCm 3 ⟨c.W,c.L,c.C,c.T,c.D,c.H,c.B,c.A,c.P,c.nP,rc,c.nU,cu,c.lenP,FC,c.iO,c.iA,c.iB,c.uP,c.uL,c.uD⟩]
 ⟨hCm 0 c++hCm 3 ⟨c.W,c.L,c.C,c.T,c.D,c.H,c.B,c.A,c.P,c.nP,rc,c.nU,cu,c.lenP,FC,c.iO,c.iA,c.iB,c.uP,c.uL,c.uD⟩,6,fun _=>True⟩ (yesF 6)
end
abbrev qCy0 (a0:Int) (a1:Cf) (a2:Int) (k:V):V:=U (0+a0.toNat < a1.nP/\0+a2.toNat < a1.lenP (0+a0.toNat)) (U (0+a0.toNat < a1.nP/\0+a2.toNat < a1.lenP (0+a0.toNat)) k)
abbrev qCy1 (a0:Int) (a1:Cf) (k:V):V:=U (0 < 1/\0+a0.toNat < a1.nU) (U (0 < 1/\0+a0.toNat < a1.nU) k)
abbrev qCy2 (a0:Int) (a1:Cf) (k:V):V:=nN [(2,.lt2 0 1 0 1)] (U (O 0<=a0/\a0 < (↑a1.nP:Int)) (U (0 < 1/\0+a0.toNat < a1.nP) (U (0 < 1/\0+a0.toNat < a1.nP) k)))
theorem vYr_eq (x:Rk) (c:Nat) (kc:Nat->Nat):V.pr .z (vYr x c kc)=
  U (∃ (x_1:Bool),x_1=true->¬(0 < 1/\0 < x.n)) (V.any Bool (fun (b:Bool)=>b=true->¬(0 < 1/\0 < x.n)) fun (x_1:Bool)=>V.br x_1
 (U (x.n<=0) (U (0=x.n) (nN [(2,.eq 0 0)] (U (x.n<=0) (nN [qF x.n x.p,qF x.n x.pa,qF x.n x.pc,qF x.n x.lf,qF x.n x.wt,qF x.n (fun (e:Nat)=>e),qF x.n x.kl,qF x.n kc,qF x.n x.st] V.ok)))))
 (U (0+x.n<=x.n) (nN [(1,.eq 0 0)] (U (0+x.n<=9223372036854775807/\(0+x.n) * 72<=140737488355328) (V.any Nat (fun (x_2:Nat)=>0+x.n<=x_2) fun (x_2:Nat)=>U (x.n<=x_2) (U (0+x.n=x.n) (nN [qE x_2,qE x_2] (U (x.n<=0+x.n) (U (∀ (e:Nat),e < x.n->x.p (0+e)=x.p e) (U (∀ (e:Nat),e < x.n->x.pa (0+e)=x.pa e) (U (∀ (e:Nat),e < x.n->x.pc (0+e)=x.pc e) (U (∀ (e:Nat),e < x.n->x.lf (0+e)=x.lf e) (U (∀ (e:Nat),e < x.n->x.wt (0+e)=x.wt e) (U (∀ (e:Nat),e < x.n->0+e=e) (U (∀ (e:Nat),e < x.n->x.kl (0+e)=x.kl e) (U (∀ (e:Nat),e < x.n->kc (0+e)=kc e) (U (∀ (e:Nat),e < x.n->x.st (0+e)=x.st e) V.ok))))))))))))))))):=by kernel_rfl
theorem vYe_eq (n cap:Nat) (v:Evs):V.pr .z (vYe n cap v)=
  U (∃ (x:Bool),x=true->¬(0 < 1/\0 < n)) (V.any Bool (fun (b:Bool)=>b=true->¬(0 < 1/\0 < n)) fun (x:Bool)=>V.br x
 (U (n<=0) (U (0=n) (nN [(2,.eq 0 0)] (U (n<=0) (nN [qF n v.k,qF n v.w,qF n v.t,qF n v.o,qF n v.l] V.ok)))))
 (U (0+n<=n) (nN [(1,.eq 0 0)] (U (0+n<=9223372036854775807/\(0+n) * 40<=140737488355328) (V.any Nat (fun (x:Nat)=>0+n<=x) fun (x:Nat)=>U (n<=x) (U (0+n=n) (nN [qE x,qE x] (U (n<=0+n) (U (∀ (e:Nat),e < n->v.k (0+e)=v.k e) (U (∀ (e:Nat),e < n->v.w (0+e)=v.w e) (U (∀ (e:Nat),e < n->v.t (0+e)=v.t e) (U (∀ (e:Nat),e < n->v.o (0+e)=v.o e) (U (∀ (e:Nat),e < n->v.l (0+e)=v.l e) V.ok))))))))))))):=by kernel_rfl
theorem vYk_eq (i n c:Nat) (G:Nat->Nat->Int):V.pr .z (vYk i n c G)=
  U (∃ (x:Bool),x=true->¬(i < i+1/\0 < onI i n i)) (V.any Bool (fun (b:Bool)=>b=true->¬(i < i+1/\0 < onI i n i)) fun (x:Bool)=>V.br x
 (U (n<=0) (U (0=n) (nN [(2,.eq 0 0)] (U (n<=0) (nN [qF n (fun (e:Nat)=>G i e)] V.ok)))))
 (U (0+n<=if i < i+1 then onI i n i else 0) (nN [(1,.eq 0 0)] (U (0+n<=9223372036854775807/\(0+n) * 8<=140737488355328) (V.any Nat (fun (x:Nat)=>0+n<=x) fun (x:Nat)=>U (n<=x) (U (0+n=n) (nN [qE x,qE x] (U (n<=0+n) (U (∀ (e:Nat),e < n->G i (0+e)=G i e) V.ok))))))))):=by kernel_rfl
theorem vQc_eq (c:Cf) (rc cu:Nat) (FC:Nat->Nat):V.pr (.f (.f (.f (.f (.f (.f (.f (.f (.f (.f (.f (.b (.f (.b (.f .z) .z)) (.b (.f .z) .z))))))))))))) (vQc c rc cu FC)=
  U ((c.W != c.W)=false) (U ((c.L != c.L)=false) (U ((c.C != c.C)=false) (U ((c.T != c.T)=false) (U ((c.D != c.D)=false) (U ((c.H != c.H)=false) (U ((c.B != c.B)=false) (U ((c.A != c.A)=false) (U ((c.P != c.P)=false) (U (((↑c.nP:Int) != (↑c.nP:Int))=false) (U (((↑c.nU:Int) != (↑c.nU:Int))=false) (U (O 0<=O 0/\O 0<=(↑c.nP:Int)) (nN [(1,.eqI 0 0)] (V.any Int (fun (x:Int)=>O 0<=x/\x<=(↑c.nP:Int)) fun (x:Int)=>nN [(2,.lt2 0 1 0 1)] (V.br (decide (x < (↑c.nP:Int)))
 (qCy2 x c (qCy2 x c (U (((↑(c.lenP (0+x.toNat)):Int) != (↑(c.lenP (0+x.toNat)):Int))=false) (U (O 0<=O 0/\O 0<=(↑(c.lenP x.toNat):Int)) (nN [(1,.eqI 0 0)] (V.any Int (fun (x_1:Int)=>O 0<=x_1/\x_1<=(↑(c.lenP x.toNat):Int)) fun (x_1:Int)=>qCy2 x c (V.br (decide (x_1 < (↑(c.lenP (0+x.toNat)):Int)))
 (qCy2 x c (U (O 0<=x_1/\x_1 < (↑(c.lenP (0+x.toNat)):Int)) (qCy0 x c x_1 (qCy0 x c x_1 (qCy2 x c (U (O 0<=x_1/\x_1 < (↑(c.lenP (0+x.toNat)):Int)) (qCy0 x c x_1 (qCy0 x c x_1 (U ((!(c.iO (0+x.toNat) (0+x_1.toNat) == c.iO (0+x.toNat) (0+x_1.toNat)&&(c.iA (0+x.toNat) (0+x_1.toNat) == c.iA (0+x.toNat) (0+x_1.toNat)&&(c.iB (0+x.toNat) (0+x_1.toNat) == c.iB (0+x.toNat) (0+x_1.toNat)&&true))))=false) (U (O 0<=i64.wrap (x_1+O 1)/\i64.wrap (x_1+O 1)<=(↑(c.lenP x.toNat):Int)) (U (c.lenP x.toNat - (i64.wrap (x_1+O 1)).toNat < c.lenP x.toNat - x_1.toNat) (nN [qE (i64.wrap (x_1+O 1))] V.ok))))))))))))
 (U (O 0<=i64.wrap (x+O 1)/\i64.wrap (x+O 1)<=(↑c.nP:Int)) (U (c.nP - (i64.wrap (x+O 1)).toNat < c.nP - x.toNat) (nN [qE (i64.wrap (x+O 1))] V.ok))))))))))
 (U (O 0<=O 0/\O 0<=(↑c.nU:Int)) (nN [(1,.eqI 0 0)] (V.any Int (fun (x:Int)=>O 0<=x/\x<=(↑c.nU:Int)) fun (x:Int)=>nN [(2,.lt2 0 1 0 1)] (V.br (decide (x < (↑c.nU:Int)))
 (nN [(2,.lt2 0 1 0 1)] (U (O 0<=x/\x < (↑c.nU:Int)) (qCy1 x c (qCy1 x c (nN [(2,.lt2 0 1 0 1)] (U (O 0<=x/\x < (↑c.nU:Int)) (qCy1 x c (qCy1 x c (U ((!(c.uP (0+x.toNat) == c.uP (0+x.toNat)&&(c.uL (0+x.toNat) == c.uL (0+x.toNat)&&(c.uD (0+x.toNat) == c.uD (0+x.toNat)&&true))))=false) (U (O 0<=i64.wrap (x+O 1)/\i64.wrap (x+O 1)<=(↑c.nU:Int)) (U (c.nU - (i64.wrap (x+O 1)).toNat < c.nU - x.toNat) (nN [qE (i64.wrap (x+O 1))] V.ok))))))))))))
 (U True V.ok))))))))))))))))))):=by kernel_rfl
theorem vhYr {x:Rk} {c:Nat} {kc:Nat->Nat} (h:okRk x):zae (vYr x c kc):=by
 have hn:=h.1
 refine zae.pr (vYr_eq ..) ?_
 refine V.needI ⟨false,fun h=>by cases h⟩ (V.anyI fun b hb=>V.brI (fun h=>?_) fun h=>?_)
 ·have h0:x.n=0:=by have:=hb h; omega
  (with_reducible repeat' first | exact V.okI | refine V.brT ?_ | refine V.brF ?_ | refine V.brI ?_ ?_ | refine V.anyI ?_ | refine nN_h rfl ?_ | refine V.needI ?_ ?_ | intro _)
  all_goals first | omega | rfl | (intros; omega) | trace_state
 ·(with_reducible repeat' first | exact V.okI | refine V.brT ?_ | refine V.brF ?_ | refine V.brI ?_ ?_ | refine V.anyI ?_ | refine nN_h rfl ?_ | refine V.needI ?_ ?_ | intro _)
  all_goals first | omega | (rw [z7]) | (intros; rw [z7]) | rfl | trace_state
theorem vhYe {n cap:Nat} {v:Evs} (hn:n<=1000000):zae (vYe n cap v):=by
 refine zae.pr (vYe_eq ..) ?_
 refine V.needI ⟨false,fun h=>by cases h⟩ (V.anyI fun b hb=>V.brI (fun h=>?_) fun h=>?_)
 ·have:n=0:=by have:=hb h; omega
  subst this
  (with_reducible repeat' first | exact V.okI | refine V.brT ?_ | refine V.brF ?_ | refine V.brI ?_ ?_ | refine V.anyI ?_ | refine nN_h rfl ?_ | refine V.needI ?_ ?_ | intro _)
  all_goals first | omega | rfl | (intros; omega) | trace_state
 ·(with_reducible repeat' first | exact V.okI | refine V.brT ?_ | refine V.brF ?_ | refine V.brI ?_ ?_ | refine V.anyI ?_ | refine nN_h rfl ?_ | refine V.needI ?_ ?_ | intro _)
  all_goals first | omega | (rw [z7]) | (intros; rw [z7]) | rfl | trace_state
theorem vhYk {i n c:Nat} {G:Nat->Nat->Int} (hn:n<=1000000):zae (vYk i n c G):=by
 have e:onI i n i=n:=by unfold onI; rw [if_pos rfl]
 refine zae.pr (vYk_eq ..) ?_
 refine V.needI ⟨false,fun h=>by cases h⟩ (V.anyI fun b hb=>V.brI (fun h=>?_) fun h=>?_)
 ·have:n=0:=by have h1:=hb h; rw [e] at h1; omega
  subst this
  (with_reducible repeat' first | exact V.okI | refine V.brT ?_ | refine V.brF ?_ | refine V.brI ?_ ?_ | refine V.anyI ?_ | refine nN_h rfl ?_ | refine V.needI ?_ ?_ | intro _)
  all_goals first | omega | rfl | (intros; omega) | trace_state
 ·(with_reducible repeat' first | exact V.okI | refine V.brT ?_ | refine V.brF ?_ | refine V.brI ?_ ?_ | refine V.anyI ?_ | refine nN_h rfl ?_ | refine V.needI ?_ ?_ | intro _)
  all_goals first | omega | exact Nat.le_of_eq (by rw [z7,if_pos (Nat.lt_succ_self i),e]) | (rw [z7]) | (intros; rw [z7]) | rfl | trace_state
section
variable {n:Nat} {x:Int}
theorem qc_0:O 0<=O 0/\O 0<=(n:Int):=⟨Int.le_refl _,Int.natCast_nonneg _⟩
theorem qc_i (h:0<=x/\x<=n) (hx:decide (x < (n:Int))=true):O 0<=x/\x < n:=⟨h.1,of_decide_eq_true hx⟩
theorem qc_t (h:0<=x/\x<=n) (hx:decide (x < (n:Int))=true):x.toNat < n:=by have:=of_decide_eq_true hx; omega
theorem qc_s (hn:n<=1000000) (h:0<=x/\x<=n) (hx:decide (x < (n:Int))=true):O 0<=i64.wrap (x+O 1)/\i64.wrap (x+O 1)<=n:=cI_s hn h (of_decide_eq_true hx)
theorem qc_m (hn:n<=1000000) (h:0<=x/\x<=n) (hx:decide (x < (n:Int))=true):n - (i64.wrap (x+O 1)).toNat < n - x.toNat:=cI_m hn h (of_decide_eq_true hx)
end
theorem vhQc {c:Cf} {rc cu:Nat} {FC:Nat->Nat} (h:preE c):zae (vQc c rc cu FC):=by
 obtain ⟨⟨hp,hl⟩,hu⟩:=h
 refine zae.pr (vQc_eq ..) ?_
 (with_reducible repeat' first | exact V.okI | refine V.brT ?_ | refine V.brF ?_ | refine V.brI ?_ ?_ | refine V.anyI ?_ | refine nN_h rfl ?_ | refine V.needI ?_ ?_ | intro _)
 all_goals try simp only [z7] at *
 all_goals first
  | exact True.intro
  | exact qc_0
  | exact qc_i ‹_› ‹_›
  | exact ⟨Nat.zero_lt_one,qc_t ‹_› ‹_›⟩
  | exact ⟨qc_t ‹_› ‹_›,qc_t ‹_› ‹_›⟩
  | exact qc_s hp ‹_› ‹_›
  | exact qc_m hp ‹_› ‹_›
  | exact qc_s hu ‹_› ‹_›
  | exact qc_m hu ‹_› ‹_›
  | exact qc_s (hl _ (qc_t ‹_› ‹_›)) ‹_› ‹_›
  | exact qc_m (hl _ (qc_t ‹_› ‹_›)) ‹_› ‹_›
  | (simp; done)
  | trace_state
noncomputable section
def cYr:List SV->Hp->Out (SV×Hp):=fun args H=>match args with
 | [.c (.slc k _ _ _ n cap)]=>fN k fun k=>match rdRk k n.v H.h with
  | some (x,f1,c1)=>useP [k,f1] 2 [.c (slK 0 7 x.n cap.v)] [(0,x.rowV 1 c1),(1,x.famV)] (.need (okRk x) (.any Nat (fun c=>x.n<=c) fun c=>.leaf (.c (slK 2 7 x.n c),⟨[(2,x.row 1 c1 c)],3,fun _=>True⟩))) args H
  | none=>.bad 480
 | _=>.bad 481
theorem cYr_ok:zab P fYr cYr:=zac fun args H=>by
 unfold cYr
 simp only [fN_eq]
 repeat' split
 all_goals first | exact .inl ⟨_,rfl⟩ | exact .inr ⟨_,_,_,_,_,rfl,zad zak.nil fun h=>vhYr h⟩
def cYe:List SV->Hp->Out (SV×Hp):=fun args H=>match args with
 | [.c (.slc k _ _ _ n cap)]=>fN k fun k=>match rdEv k H.h with
  | some v=>useP [k] 1 [.c (slK 0 5 n.v cap.v)] [(0,eV n.v v)] (.need (n.v<=1000000) (.any Nat (fun c=>n.v<=c) fun c=>.leaf (.c (slK 1 5 n.v c),⟨[(1,.row 24 c n.v v.cols)],2,fun _=>True⟩))) args H
  | none=>.bad 480
 | _=>.bad 481
theorem cYe_ok:zab P fYe cYe:=zac fun args H=>by
 unfold cYe
 simp only [fN_eq]
 repeat' split
 all_goals first | exact .inl ⟨_,rfl⟩ | exact .inr ⟨_,_,_,_,_,rfl,zad zak.nil fun h=>vhYe h⟩
def cYk:List SV->Hp->Out (SV×Hp):=fun args H=>match args with
 | [.c (.slc k i _ _ n cap)]=>fN k fun k=>match famK k H.h with
  | some G=>useP [k] 1 [.c (slI 0 i.v n.v cap.v)] [(0,kV i.v n.v G)] (.need (n.v<=1000000) (.any Nat (fun c=>n.v<=c) fun c=>.leaf (.c (slK 1 1 n.v c),⟨[(1,.row 3 c n.v [.ci .i64 fun _ e=>G i.v e])],2,fun _=>True⟩))) args H
  | none=>.bad 480
 | _=>.bad 481
theorem cYk_ok:zab P fYk cYk:=zac fun args H=>by
 unfold cYk
 simp only [fN_eq]
 repeat' split
 all_goals first | exact .inl ⟨_,rfl⟩ | exact .inr ⟨_,_,_,_,_,rfl,zad zak.nil fun h=>vhYk h⟩
def famPr (k:Nat) (h:HL):Option (Nat×(Nat->Nat)):=match (find k h).map zds with
 | some [.cs kF _ _ _ cp]=>some (kF,fun e=>cp 0 e)
 | _=>none
def kProg (k:Nat) (h:HL):Option Nat:=match famPr k h with
 | some (kF,_)=>some kF
 | none=>none
def cfQ (c:Cf) (rc cu:Nat) (FC:Nat->Nat):Cf:=⟨c.W,c.L,c.C,c.T,c.D,c.H,c.B,c.A,c.P,c.nP,rc,c.nU,cu,c.lenP,FC,c.iO,c.iA,c.iB,c.uP,c.uL,c.uD⟩
def cQc:List SV->Hp->Out (SV×Hp):=fun args H=>match args with
 | [.a [x0,x1,x2,x3,x4,x5,x6,x7,x8,.slc kr _ _ _ nP rc,.slc ku _ _ _ nU cu],.a [_,_,_,_,_,_,_,_,_,.slc kr2 _ _ _ _ rc2,.slc ku2 _ _ _ _ cu2]]=>match numC x0,numC x1,numC x2,numC x3,numC x4,numC x5,numC x6,numC x7,numC x8 with
  | some W,some L,some C,some T,some D,some h,some B,some A,some Q=>fN kr fun kr=>fN ku fun ku=>fN kr2 fun kr2=>fN ku2 fun ku2=>match famPr kr2 H.h with
   | some (kF2,cp2)=>cfBlk H.h kr ku fun kF ln cp o a b f g k=>useP [kr,ku,kF,kr2,ku2,kF2] 6
     [argCm 0 ⟨W,L,C,T,D,h,B,A,Q,nP.v,rc.v,nU.v,cu.v,fun e=>ln 0 e,fun e=>cp 0 e,o,a,b,fun e=>f 0 e,fun e=>g 0 e,fun e=>k 0 e⟩,argCm 3 (cfQ ⟨W,L,C,T,D,h,B,A,Q,nP.v,rc.v,nU.v,cu.v,fun e=>ln 0 e,fun e=>cp 0 e,o,a,b,fun e=>f 0 e,fun e=>g 0 e,fun e=>k 0 e⟩ rc2.v cu2.v cp2)]
     (hCm 0 ⟨W,L,C,T,D,h,B,A,Q,nP.v,rc.v,nU.v,cu.v,fun e=>ln 0 e,fun e=>cp 0 e,o,a,b,fun e=>f 0 e,fun e=>g 0 e,fun e=>k 0 e⟩++hCm 3 (cfQ ⟨W,L,C,T,D,h,B,A,Q,nP.v,rc.v,nU.v,cu.v,fun e=>ln 0 e,fun e=>cp 0 e,o,a,b,fun e=>f 0 e,fun e=>g 0 e,fun e=>k 0 e⟩ rc2.v cu2.v cp2))
     (yesO 6 (preE ⟨W,L,C,T,D,h,B,A,Q,nP.v,rc.v,nU.v,cu.v,fun e=>ln 0 e,fun e=>cp 0 e,o,a,b,fun e=>f 0 e,fun e=>g 0 e,fun e=>k 0 e⟩)) args H
   | none=>.bad 436
  | _,_,_,_,_,_,_,_,_=>.bad 434
 | _=>.bad 435
theorem lQc {c:Cf} {rc cu:Nat} {FC:Nat->Nat}:zah P fQc [argCm 0 c,argCm 3 (cfQ c rc cu FC)] (hCm 0 c++hCm 3 (cfQ c rc cu FC)) 6 (yesO 6 (preE c)):=zao zak.nil fun h=>vhQc h
theorem cQc_ok:zab P fQc cQc:=zac fun args H=>by
 unfold cQc
 simp only [fN_eq]
 repeat' split
 all_goals first | exact .inl ⟨_,rfl⟩ | exact (zgk _ _ _ _).elim .inl fun ⟨_,_,_,_,_,_,_,_,_,e⟩=>.inr ⟨_,_,_,_,_,e,lQc⟩
end
end Go.Proofs.YtfkdlkidflgalaaGreat.En
