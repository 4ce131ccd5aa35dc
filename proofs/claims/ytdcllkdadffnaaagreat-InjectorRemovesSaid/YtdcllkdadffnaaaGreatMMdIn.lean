/- Insert of the injector, alone: the conditions, printed by program. -/
import Derived.Test.YtdcllkdadffnaaaGreatMMdInD
import Derived.Test.YtdcllkdadffnaaaGreatMW
import Derived.Test.YtdcllkdadffnaaaGreatMMd
set_option maxHeartbeats 64000000
set_option linter.unusedVariables false
set_option linter.unusedSimpArgs false
set_option maxRecDepth 100000
open Go.IntKind (i64 u64)
open Int renaming ofNat -> O
open Go.Proofs.YtdcllkdadffnaaaGreat.Sx.V renaming need -> U
namespace Go.Proofs.YtdcllkdadffnaaaGreat.Md
open Go Go.RowKit Sx Cn Dc Ck Vc
abbrev mi0 (a0:Nat) (a1:XIn) (k:V):V:=U (a0 - (i64.wrap ((↑a1.s:Int)+O 1)).toNat < a0 - a1.s) (U (i64.wrap ((↑a1.s:Int)+O 1)=(↑(i64.wrap ((↑a1.s:Int)+O 1)).toNat:Int)) k)
abbrev mi2 (a0 a1:Nat) (a2:Mm) (l:LP):LP:=(1,.pf (a0=a0) rfl)::(1,.pf (a1=a1) rfl)::(1,.pf (a2.lk=a2.lk) rfl)::(1,.pf (a2.lc=a2.lc) rfl)::(1,.pf (a2.lo=a2.lo) rfl)::(1,.pf (a2.ln=a2.ln) rfl)::(1,.pf (a2.ct=a2.ct) rfl)::(1,.pf (a1=a1) rfl)::(1,.pf (a0<=a0) (Nat.le_refl _))::(1,.pf (∀ (e:Nat),e < a0->a2.g e=a2.g e) (by intros; rfl))::l
abbrev mi3 (a0:XIn) (a1 a2:Nat) (a3:Mm) (l:LP):LP:=(1,.pf (i64.wrap ((↑a0.s:Int)+O 1)=i64.wrap ((↑a0.s:Int)+O 1)) rfl)::mi2 a1 a2 a3 l
abbrev mi4 (a0:XIn) (l:LP):LP:=(1,.pf (a0.n=a0.n) rfl)::(1,.pf (i64.wrap ((i64.wrap (a0.i - O 1)).tdiv (O 2))=i64.wrap ((i64.wrap (a0.i - O 1)).tdiv (O 2))) rfl)::l
abbrev mi5 (a0:XIn) (l:LP):LP:=(1,.pf (a0.i=a0.i) rfl)::(1,.pf (a0.k=a0.k) rfl)::l
abbrev mi6 (a0:XIn) (a1:Ly) (k:Int->V):V:=nN [(1,.pf (∃ (x_1:Int),x_1=atM a0.i a1.H (O 4) (O 1)) ⟨_,rfl⟩)] (V.any Int (fun (r:Int)=>r=atM a0.i a1.H (O 4) (O 1)) fun v0=>k v0)
abbrev mi7 (a0:XIn) (a1 a2:Nat) (a3:Mm) (l:LP):LP:=(1,.pf (a0.x=a0.x) rfl)::mi2 a1 a2 a3 l
abbrev mi1 (a0 a1:Int) (l:LP):LP:=(1,.pf (a0=a0) rfl)::(1,.pf (a1=a1) rfl)::l
theorem verIn_eq (y:Ly) (n cap:Nat) (d t:Int) (M:Nat) (m:Mm):verIn y n cap d t M m=
 U (0<=M/\zen y n d t (M - 0) (0,XIn.mk (O 1) (O 0) (O 0) (O 0) (O 0) 0 m)=inR y n d t M m) (U (O 0=(↑0:Int)) (nN (mi1 d t ((1,.eqI 1 1)::(4,.eqI 0 0)::mi2 n cap m [])) (V.any XIn (okIn y n d t M (inR y n d t M m)) fun y0=>V.br (decide ((↑y0.s:Int) < (↑M:Int))) (nN [(16,.lt2 0 1 0 1)] (V.br (y0.ln == O 1) (nN ((1,.eqI 2 2)::mi2 n cap y0.m [(1,.pf (∃ (x_1:Mm),x_1=y0.m.acc n (O 1) (O 2) (y0.m.val n (O 2))) ⟨_,rfl⟩)]) (V.any Mm (fun (m':Mm)=>m'=y0.m.acc n (O 1) (O 2) (y0.m.val n (O 2))) fun y1=>nN [(1,.pf (∃ (x_2:Int),x_2=y0.m.val n (O 2)) ⟨_,rfl⟩)] (V.any Int (fun (v:Int)=>v=y0.m.val n (O 2)) fun y2=>nN [(7,.lt2 0 1 0 1)] (V.br (decide (i64.wrap y2 >= y.H)) (nN [(6,.lt2 0 1 0 1)] (U (Rs.mk (O 3) (O 0) (i64.wrap ((↑y0.s:Int)+O 1)) y1=inR y n d t M m) (nN ((1,.eqI 3 3)::(1,.eqI 0 0)::mi3 y0 n cap y1 []) V.ok))) (U ((i64.wrap ((↑y0.s:Int)+O 1)).toNat<=M/\zen y n d t (M - (i64.wrap ((↑y0.s:Int)+O 1)).toNat) (0,XIn.mk (O 2) (i64.wrap y2) y0.i y0.k y0.x (i64.wrap ((↑y0.s:Int)+O 1)).toNat y1)=inR y n d t M m) (mi0 M y0 (nN (mi1 d t ((1,.eqI 2 2)::(1,.pf (i64.wrap y2=i64.wrap y2) rfl)::mi5 y0 (mi7 y0 n cap y1 []))) V.ok))))))) (V.br (y0.ln == O 2) (nN ((14,.lt2 0 1 0 1)::(1,.eqI 3 3)::(1,.eqI 1 1)::mi2 n cap y0.m [(1,.pf (∃ (x_1:Mm),x_1=y0.m.acc n (O 6) (O 3) (u64.wrap (y0.m.val n (O 3)+O 1))) ⟨_,rfl⟩)]) (V.any Mm (fun (m':Mm)=>m'=y0.m.acc n (O 6) (O 3) (u64.wrap (y0.m.val n (O 3)+O 1))) fun y1=>nN [(1,.pf (∃ (x_2:Int),x_2=y0.m.val n (O 3)) ⟨_,rfl⟩)] (V.any Int (fun (v:Int)=>v=y0.m.val n (O 3)) fun y2=>nN [(3,.lt2 0 1 0 1),(1,.pf (d=d) rfl),(1,.pf (i64.wrap y2=i64.wrap y2) rfl),(1,.pf (t=t) rfl)] (U True (nN [(1,.pf (∃ (x:Int×Bool),x=(pkW d (i64.wrap y2) t,pkB d (i64.wrap y2) t)) ⟨_,rfl⟩)] (V.any (Int×Bool) (fun (p:Int×Bool)=>p=(pkW d (i64.wrap y2) t,pkB d (i64.wrap y2) t)) fun y3=>V.br (!y3.snd) (nN [(6,.lt2 0 1 0 1)] (U (Rs.mk (O 4) (O 0) (i64.wrap ((↑y0.s:Int)+O 1)) y1=inR y n d t M m) (nN ((1,.eqI 4 4)::(1,.eqI 0 0)::mi3 y0 n cap y1 []) V.ok))) (V.br (decide (y0.n > O 0)) (U ((i64.wrap ((↑y0.s:Int)+O 1)).toNat<=M/\zen y n d t (M - (i64.wrap ((↑y0.s:Int)+O 1)).toNat) (0,XIn.mk (O 3) y0.n y0.n y3.fst y0.x (i64.wrap ((↑y0.s:Int)+O 1)).toNat y1)=inR y n d t M m) (mi0 M y0 (nN (mi1 d t ((1,.eqI 3 3)::(2,.pf (y0.n=y0.n) rfl)::(1,.pf (y3.fst=y3.fst) rfl)::mi7 y0 n cap y1 [])) V.ok))) (U ((i64.wrap ((↑y0.s:Int)+O 1)).toNat<=M/\zen y n d t (M - (i64.wrap ((↑y0.s:Int)+O 1)).toNat) (0,XIn.mk (O 5) y0.n y0.n y3.fst y0.x (i64.wrap ((↑y0.s:Int)+O 1)).toNat y1)=inR y n d t M m) (mi0 M y0 (nN (mi1 d t ((1,.eqI 5 5)::(2,.pf (y0.n=y0.n) rfl)::(1,.pf (y3.fst=y3.fst) rfl)::mi7 y0 n cap y1 [])) V.ok)))))))))) (V.br (y0.ln == O 3) (nN [(14,.lt2 0 1 0 1),(1,.neI 2 0),(1,.pf (i64.wrap ((i64.wrap (y0.i - O 1)).tdiv (O 2))=i64.wrap ((i64.wrap (y0.i - O 1)).tdiv (O 2))) rfl),(1,.pf (y.H=y.H) rfl),(1,.eqI 4 4),(1,.eqI 1 1)] (U (zdc (i64.wrap ((i64.wrap (y0.i - O 1)).tdiv (O 2))) y.H (O 4) (O 1)) (nN [(1,.pf (∃ (x_1:Int),x_1=atM (i64.wrap ((i64.wrap (y0.i - O 1)).tdiv (O 2))) y.H (O 4) (O 1)) ⟨_,rfl⟩)] (V.any Int (fun (r:Int)=>r=atM (i64.wrap ((i64.wrap (y0.i - O 1)).tdiv (O 2))) y.H (O 4) (O 1)) fun y1=>nN ((1,.pf (y1=y1) rfl)::mi2 n cap y0.m [(1,.pf (∃ (x_2:Mm),x_2=y0.m.acc n (O 1) y1 (y0.m.val n y1)) ⟨_,rfl⟩)]) (V.any Mm (fun (m':Mm)=>m'=y0.m.acc n (O 1) y1 (y0.m.val n y1)) fun y2=>nN [(1,.pf (∃ (x_3:Int),x_3=y0.m.val n y1) ⟨_,rfl⟩)] (V.any Int (fun (v:Int)=>v=y0.m.val n y1) fun y3=>nN [(8,.lt2 0 1 0 1)] (V.br (decide (y3 > y0.k)) (U ((i64.wrap ((↑y0.s:Int)+O 1)).toNat<=M/\zen y n d t (M - (i64.wrap ((↑y0.s:Int)+O 1)).toNat) (0,XIn.mk (O 4) y0.n y0.i y0.k y3 (i64.wrap ((↑y0.s:Int)+O 1)).toNat y2)=inR y n d t M m) (mi0 M y0 (nN (mi1 d t ((1,.eqI 4 4)::(1,.pf (y0.n=y0.n) rfl)::mi5 y0 ((1,.pf (y3=y3) rfl)::mi2 n cap y2 []))) V.ok))) (U ((i64.wrap ((↑y0.s:Int)+O 1)).toNat<=M/\zen y n d t (M - (i64.wrap ((↑y0.s:Int)+O 1)).toNat) (0,XIn.mk (O 5) y0.n y0.i y0.k y3 (i64.wrap ((↑y0.s:Int)+O 1)).toNat y2)=inR y n d t M m) (mi0 M y0 (nN (mi1 d t ((1,.eqI 5 5)::(1,.pf (y0.n=y0.n) rfl)::mi5 y0 ((1,.pf (y3=y3) rfl)::mi2 n cap y2 []))) V.ok)))))))))) (V.br (y0.ln == O 4) (nN [(14,.lt2 0 1 0 1),(1,.pf (y0.i=y0.i) rfl),(1,.pf (y.H=y.H) rfl),(1,.eqI 4 4),(1,.eqI 1 1)] (U (zdc y0.i y.H (O 4) (O 1)) (mi6 y0 y fun y1=>nN ((3,.lt2 0 1 0 1)::(1,.pf (y1=y1) rfl)::mi7 y0 n cap y0.m [(1,.pf (∃ (x_2:Mm),x_2=y0.m.acc n (O 2) y1 y0.x) ⟨_,rfl⟩)]) (V.any Mm (fun (m':Mm)=>m'=y0.m.acc n (O 2) y1 y0.x) fun y2=>nN [(1,.neI 2 0)] (V.br (decide (i64.wrap ((i64.wrap (y0.i - O 1)).tdiv (O 2)) > O 0)) (U ((i64.wrap ((↑y0.s:Int)+O 1)).toNat<=M/\zen y n d t (M - (i64.wrap ((↑y0.s:Int)+O 1)).toNat) (0,XIn.mk (O 3) y0.n (i64.wrap ((i64.wrap (y0.i - O 1)).tdiv (O 2))) y0.k y0.x (i64.wrap ((↑y0.s:Int)+O 1)).toNat y2)=inR y n d t M m) (mi0 M y0 (nN (mi1 d t ((1,.eqI 3 3)::mi4 y0 ((1,.pf (y0.k=y0.k) rfl)::mi7 y0 n cap y2 []))) V.ok))) (U ((i64.wrap ((↑y0.s:Int)+O 1)).toNat<=M/\zen y n d t (M - (i64.wrap ((↑y0.s:Int)+O 1)).toNat) (0,XIn.mk (O 5) y0.n (i64.wrap ((i64.wrap (y0.i - O 1)).tdiv (O 2))) y0.k y0.x (i64.wrap ((↑y0.s:Int)+O 1)).toNat y2)=inR y n d t M m) (mi0 M y0 (nN (mi1 d t ((1,.eqI 5 5)::mi4 y0 ((1,.pf (y0.k=y0.k) rfl)::mi7 y0 n cap y2 []))) V.ok)))))))) (V.br (y0.ln == O 5) (nN [(14,.lt2 0 1 0 1),(1,.pf (y0.i=y0.i) rfl),(1,.pf (y.H=y.H) rfl),(1,.eqI 4 4),(1,.eqI 1 1)] (U (zdc y0.i y.H (O 4) (O 1)) (mi6 y0 y fun y1=>nN ((3,.lt2 0 1 0 1)::(1,.pf (y1=y1) rfl)::(1,.pf (y0.k=y0.k) rfl)::mi2 n cap y0.m [(1,.pf (∃ (x_2:Mm),x_2=y0.m.acc n (O 2) y1 y0.k) ⟨_,rfl⟩)]) (V.any Mm (fun (m':Mm)=>m'=y0.m.acc n (O 2) y1 y0.k) fun y2=>U ((i64.wrap ((↑y0.s:Int)+O 1)).toNat<=M/\zen y n d t (M - (i64.wrap ((↑y0.s:Int)+O 1)).toNat) (0,XIn.mk (O 6) y0.n y0.i y0.k y0.x (i64.wrap ((↑y0.s:Int)+O 1)).toNat y2)=inR y n d t M m) (mi0 M y0 (nN (mi1 d t ((1,.eqI 6 6)::(1,.pf (y0.n=y0.n) rfl)::mi5 y0 (mi7 y0 n cap y2 []))) V.ok)))))) (nN ((14,.lt2 0 1 0 1)::(1,.eqI 2 2)::(1,.pf (u64.wrap (i64.wrap (y0.n+O 1))=u64.wrap (i64.wrap (y0.n+O 1))) rfl)::mi2 n cap y0.m [(1,.pf (∃ (x_1:Mm),x_1=y0.m.acc n (O 2) (O 2) (u64.wrap (i64.wrap (y0.n+O 1)))) ⟨_,rfl⟩)]) (V.any Mm (fun (m':Mm)=>m'=y0.m.acc n (O 2) (O 2) (u64.wrap (i64.wrap (y0.n+O 1)))) fun y1=>nN [(6,.lt2 0 1 0 1)] (U (Rs.mk (O 0) (O 0) (i64.wrap ((↑y0.s:Int)+O 1)) y1=inR y n d t M m) (nN ((2,.eqI 0 0)::mi3 y0 n cap y1 []) V.ok)))))))))) (U (Rs.mk (Int.negSucc 0) (O 0) (↑y0.s:Int) y0.m=inR y n d t M m) (nN ((1,.pf (Int.negSucc 0=Int.negSucc 0) rfl)::(1,.eqI 0 0)::(1,.pf ((↑y0.s:Int)=(↑y0.s:Int)) rfl)::mi2 n cap y0.m []) V.ok))))):=by kernel_rfl
theorem vPack_eq (d a t:Int):vPack d a t=
 V.br (decide (d < O 0)) (U ((O 0,false)=(pkW d a t,pkB d a t)) (nN [(1,.eqI 0 0)] (nN [(1,.pf (false=false) rfl)] (V.ok)))) (V.br (decide (d > O 16777215)) (U ((O 0,false)=(pkW d a t,pkB d a t)) (nN [(1,.eqI 0 0)] (nN [(1,.pf (false=false) rfl)] (V.ok)))) (V.br (decide (a < O 0)) (U ((O 0,false)=(pkW d a t,pkB d a t)) (nN [(1,.eqI 0 0)] (nN [(1,.pf (false=false) rfl)] (V.ok)))) (V.br (decide (a > O 16777215)) (U ((O 0,false)=(pkW d a t,pkB d a t)) (nN [(1,.eqI 0 0)] (nN [(1,.pf (false=false) rfl)] (V.ok)))) (V.br (decide (t < O 0)) (U ((O 0,false)=(pkW d a t,pkB d a t)) (nN [(1,.eqI 0 0)] (nN [(1,.pf (false=false) rfl)] (V.ok)))) (V.br (decide (t > O 65535)) (U ((O 0,false)=(pkW d a t,pkB d a t)) (nN [(1,.eqI 0 0)] (nN [(1,.pf (false=false) rfl)] (V.ok)))) (nN [(1,.leI 0 40),(1,.leI 0 16)] (U ((bits BinOp.or IntKind.u64 (bits BinOp.or IntKind.u64 (u64.wrap (u64.wrap d * O 2 ^ 40)) (u64.wrap (u64.wrap a * O 2 ^ 16))) (u64.wrap t),true)=(pkW d a t,pkB d a t)) (nN [(1,.pf (bits BinOp.or IntKind.u64 (bits BinOp.or IntKind.u64 (u64.wrap (u64.wrap d * O 2 ^ 40)) (u64.wrap (u64.wrap a * O 2 ^ 16))) (u64.wrap t)=bits BinOp.or IntKind.u64 (bits BinOp.or IntKind.u64 (u64.wrap (u64.wrap d * O 2 ^ 40)) (u64.wrap (u64.wrap a * O 2 ^ 16))) (u64.wrap t)) rfl),(1,.pf (true=true) rfl)] V.ok)))))))):=by kernel_rfl
end Go.Proofs.YtdcllkdadffnaaaGreat.Md
/- Insert of the injector, alone: the conditions hold. -/
namespace Go.Proofs.YtdcllkdadffnaaaGreat.Md
open Go Go.RowKit Sx Cn Dc Ck Vc
theorem or3 {a b c:Nat} (hb:b < 2 ^ 24) (hc:c < 2 ^ 16):(a <<< 40) ||| (b <<< 16) ||| c=a * 1099511627776+b * 65536+c:=by
 have h1:a <<< 40+b <<< 16=a <<< 40 ||| b <<< 16:=Nat.shiftLeft_add_eq_or_of_lt (by rw [Nat.shiftLeft_eq]; omega) a
 have h2:(a * 16777216+b) <<< 16+c=(a * 16777216+b) <<< 16 ||| c:=Nat.shiftLeft_add_eq_or_of_lt hc _
 have e1:a <<< 40+b <<< 16=(a * 16777216+b) <<< 16:=by simp only [Nat.shiftLeft_eq]; omega
 rw [<- h1,e1,<-h2,Nat.shiftLeft_eq]
 omega
theorem or_nat {x y:Nat} (hx:x < 18446744073709551616) (hy:y < 18446744073709551616):bits .or .u64 (x:Int) (y:Int)=((x ||| y:Nat):Int):=by
 have h:x ||| y < 2 ^ 64:=Nat.or_lt_two_pow (by simpa using hx) (by simpa using hy)
 unfold bits
 show u64.wrap (((BitVec.ofInt 64 (x:Int)) ||| (BitVec.ofInt 64 (y:Int))).toNat:Int)=_
 rw [BitVec.toNat_or,BitVec.ofInt_natCast,BitVec.ofInt_natCast,BitVec.toNat_ofNat,BitVec.toNat_ofNat,Nat.mod_eq_of_lt (by simpa using hx),Nat.mod_eq_of_lt (by simpa using hy),wu64]
 omega
theorem pk_f {d a t:Int} (h:¬ ((0<=d/\d<=16777215)/\(0<=a/\a<=16777215)/\0<=t/\t<=65535)):(O 0,false)=(pkW d a t,pkB d a t):=by
 have e:pkB d a t=false:=decide_eq_false h
 unfold pkW
 rw [e]
 rfl
theorem pk_t {d a t:Int} (h:(0<=d/\d<=16777215)/\(0<=a/\a<=16777215)/\0<=t/\t<=65535):pkB d a t=true/\pkW d a t=d * 1099511627776+a * 65536+t:=by
 have e:pkB d a t=true:=decide_eq_true h
 unfold pkW
 rw [e]
 exact ⟨rfl,rfl⟩
theorem pk_or {d a t:Int} (h:(0<=d/\d<=16777215)/\(0<=a/\a<=16777215)/\0<=t/\t<=65535):bits BinOp.or IntKind.u64 (bits BinOp.or IntKind.u64 (u64.wrap (u64.wrap d * O 2 ^ 40)) (u64.wrap (u64.wrap a * O 2 ^ 16))) (u64.wrap t)=d * 1099511627776+a * 65536+t:=by
 obtain ⟨⟨d0,d1⟩,⟨a0,a1⟩,t0,t1⟩:=h
 obtain ⟨d,rfl⟩:∃ n:Nat,d=n:=⟨d.toNat,by omega⟩
 obtain ⟨a,rfl⟩:∃ n:Nat,a=n:=⟨a.toNat,by omega⟩
 obtain ⟨t,rfl⟩:∃ n:Nat,t=n:=⟨t.toNat,by omega⟩
 have e40:(O 2:Int) ^ 40=1099511627776:=by decide
 have e16:(O 2:Int) ^ 16=65536:=by decide
 rw [e40,e16,wu64 (n:=(d:Int)) (by omega),wu64 (n:=(a:Int)) (by omega),wu64 (n:=(t:Int)) (by omega),wu64 (by omega),wu64 (by omega)]
 have h3:=or3 (a:=d) (b:=a) (c:=t) (by omega) (by omega)
 simp only [Nat.shiftLeft_eq] at h3
 have c1:(d:Int) * 1099511627776=((d * 2 ^ 40:Nat):Int):=by omega
 have c2:(a:Int) * 65536=((a * 2 ^ 16:Nat):Int):=by omega
 have b1:d * 2 ^ 40 ||| a * 2 ^ 16 < 2 ^ 64:=Nat.or_lt_two_pow (by omega) (by omega)
 rw [c1,c2,or_nat (by omega) (by omega),or_nat (by omega) (by omega),h3]
 omega
theorem vhPack {d a t:Int}:zae (vPack d a t):=by
 constructor
 rw [vPack_eq]
 (with_reducible repeat' first | exact V.okI | refine V.brT ?_ | refine V.brF ?_ | refine V.brI ?_ ?_ | refine V.anyI ?_ | refine nN_h rfl ?_ | refine V.needI ?_ ?_ | intro _)
 all_goals simp only [decide_eq_true_eq,decide_eq_false_iff_not,Int.ofNat_eq_natCast,Int.natCast_zero] at *
 all_goals first
  | exact True.intro
  | exact pk_f (by omega)
  | skip
 rw [(pk_t (by omega)).1,(pk_t (by omega)).2]
 exact Prod.ext (pk_or (by omega)) rfl
noncomputable section
theorem cPack_ok:zab P fPack cPack:=numF_ok fun l args H=>by
 repeat' split
 all_goals first | exact .inl ⟨_,rfl⟩ | exact .inr ⟨_,_,_,_,_,rfl,zad zaj.nil fun _=>vhPack⟩
theorem conIJ_ok:zaj P conIJ:=.add cPack_ok (conT_ok zaj.nil)
end
theorem inRun_lt {y:Ly} {n:Nat} {d t:Int} {k M:Nat} (h:k < M) (s:Nat×XIn):zen y n d t (M - k) s=match inStep y n d t s with
  | (x',none)=>zen y n d t (M - (k+1)) x'
  | (x',some r)=>⟨r.1,r.2,(x'.2.s:Int),x'.2.m⟩:=by
 rw [show M - k=(M - (k+1))+1 by omega]
 rcases h:inStep y n d t s with ⟨x',_ | r⟩<;>simp only [zen,aRun,h]
theorem inRun_eq {y:Ly} {n:Nat} {d t:Int} {k M:Nat} (h:¬ k < M) (s:Nat×XIn):zen y n d t (M - k) s=⟨-1,0,(s.2.s:Int),s.2.m⟩:=by
 rw [show M - k=0 by omega]
 rfl
theorem slot_ok {H i:Int} (h:0<=H/\H<=1000):zdc i H 4 1:=⟨fun h1 h2=>by omega,by omega⟩
theorem vhIn {y:Ly} {n cap:Nat} {d t:Int} {M:Nat} {m:Mm} (hH:0<=y.H/\y.H<=1000) (hM:M<=1000):zae (verIn y n cap d t M m):=by
  constructor
  rw [verIn_eq]
  refine V.needI ⟨by omega,rfl⟩ ?_
  generalize inR y n d t M m=R
  refine V.needI rfl (nN_h rfl (V.anyI fun x hx=>?_))
  obtain ⟨hk,hR⟩:=hx
  refine V.brI (fun hlt=>?_) (fun hge=>?_)
  case' refine_1=>
    have hlt:x.s < M:=by simpa using hlt
    rw [inRun_lt hlt] at hR
    have ek:i64.wrap ((x.s:Int)+O 1)=((x.s+1:Nat):Int):=wnat (by omega)
    simp only [ek,Int.toNat_natCast,Mm.eta]
  case' refine_2=>
    have hge:¬ x.s < M:=by simpa using hge
    rw [inRun_eq hge] at hR
    simp only [Mm.eta]
  all_goals (with_reducible repeat' first | exact V.okI | refine V.brT ?_ | refine V.brF ?_ | refine V.brI ?_ ?_ | refine V.anyI ?_ | refine nN_h rfl ?_ | refine V.needI ?_ ?_ | intro _)
  all_goals subst_vars
  all_goals simp only [Int.ofNat_eq_natCast,Int.cast_ofNat_Int,Int.natCast_zero,Int.natCast_one,decide_eq_true_eq,decide_eq_false_iff_not,beq_iff_eq,beq_eq_false_iff_ne,Mm.eta,Bool.not_eq_true',Bool.not_eq_false',gt_iff_lt] at *
  all_goals first
    | rfl
    | omega
    | exact slot_ok hH
    | (simp only [inStep, *,if_true]; done)
    | (simp [inStep, *]; done)
    | (refine ⟨by omega,?_⟩
       first
         | (simp [inStep, *]; done)
         | (simp [inStep,plc,slM,par, *]; done)
         | skip)
    | skip
end Go.Proofs.YtdcllkdadffnaaaGreat.Md
