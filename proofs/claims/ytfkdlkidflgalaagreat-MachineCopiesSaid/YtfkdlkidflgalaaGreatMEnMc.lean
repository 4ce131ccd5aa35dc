/- MachineCopies: the law: what is asked. -/
import Derived.Test.YtfkdlkidflgalaaGreatMEnCz
import Derived.Test.YtfkdlkidflgalaaGreatMEnVn
import Derived.Test.YtfkdlkidflgalaaGreatMEn
import Derived.Test.YtfkdlkidflgalaaGreatMEnG
import Derived.Test.YtfkdlkidflgalaaGreatMEg
import Derived.Test.YtfkdlkidflgalaaGreatMW
import Derived.Test.YtfkdlkidflgalaaGreatMV
set_option maxHeartbeats 64000000
set_option linter.unusedVariables false
set_option linter.unusedSimpArgs false
set_option maxRecDepth 100000
open Go.IntKind (i64 u64)
open Int renaming ofNat -> O
open Nat renaming le_refl -> Z
open Go.Proofs.YtfkdlkidflgalaaGreat.Sx.V renaming need -> U
namespace Go.Proofs.YtfkdlkidflgalaaGreat.En
open Go Go.RowKit Sx Cn Dc Ck Vc Md
noncomputable section
def vAw8:V:=verF P con0 6 10 8 [] .nil [] ⟨[],0,fun _=>True⟩ (psYes.fin 0)
def pkM (s:St):Nat:=scK (zav (tmK 11 s) 9 s.H.h)
def fkM (s:St):Nat:=(kProg (pkM s) s.H.h).getD 0
def rowA (k:Nat) (h:HL):Option (Nat->Nat->Int):=match find k h with
 | some (.fam _ _ _ _ [_,.ci _ A,_])=>some fun i e=>A i e
 | _=>none
def lenA (s:St):Option (Nat×(Nat->Nat)):=match ceS (tmK 11 s) 9 s.H.h,(find (pkM s) s.H.h).map zds with
 | some (_,n,_),some [.cs _ _ _ ln _]=>some (n,fun e=>ln 0 e)
 | _,_=>none
def laMc (t:Nat) (n:(Nat×(Nat->Nat))->St->Option Nat) (s:St):Option (LA (Int×(Nat->Nat->Int))):=match find (fkM s) s.H.h,lenA s with
 | some (.fam rw ty cp ln [o,_,b]),some r=>(match n r s with
  | some n=>some ⟨[(fkM,true)],fun x=>[.fam rw ty cp ln [o,.ci .i64 fun i e=>x.2 i e,b]],[t],fun x=>[iv x.1],fun s=>match tmI t s,rowA (fkM s) s.H.h with | some i,some A=>some (i,A) | _,_=>none,fun x=>0<=x.1/\x.1<=n,fun x=>n - x.1.toNat⟩
  | none=>none)
 | _,_=>none
def kMem (s:St):Nat:=scK (zav (tmK 15 s) 22 s.H.h)
def kCel (s:St):Nat:=scK (zav (kMem s) 0 s.H.h)
def kClk (s:St):Nat:=scK (zav (tmK 15 s) 23 s.H.h)
def kRec (s:St):Nat:=scK (zav (tmK 15 s) 24 s.H.h)
def kKid (s:St):Nat:=match kidK (kRec s) s.H.h with
 | some (k,_)=>k
 | none=>0
def kEvs (s:St):Nat:=scK (zav (tmK 15 s) 25 s.H.h)
def bare0 (k:Nat) (h:HL):List Blk:=match find k h with
 | some (.own t n cs)=>[.own t n (cs.map fun _=>none)]
 | some (.row t c _ cs)=>[.row t c 0 (cs.map fun _=>.cu)]
 | some (.fam rw t c n cs)=>[.fam rw t c n (cs.map fun _=>.cu)]
 | _=>[]
def asIs (k:Nat) (h:HL):List Blk:=match find k h with
 | some b=>[b]
 | none=>[]
def laKc (s:St):Option (LA (Nat×Nat)):=match find (kEvs s) s.H.h with
 | some (.row te _ ne ce)=>some ⟨[(tmK 15,true),(kMem,true),(kCel,true),(kClk,true),(kRec,true),(kKid,true),(fkM,true),(kEvs,false)],fun x=>match x.1 with
   | 0=>asIs (tmK 15 s) s.H.h++(asIs (kMem s) s.H.h++(asIs (kCel s) s.H.h++(asIs (kClk s) s.H.h++(asIs (kRec s) s.H.h++(asIs (kKid s) s.H.h++(asIs (fkM s) s.H.h++[.row te x.2 ne ce]))))))
   | _=>bare0 (tmK 15 s) s.H.h++(bare0 (kMem s) s.H.h++(bare0 (kCel s) s.H.h++(bare0 (kClk s) s.H.h++(bare0 (kRec s) s.H.h++(bare0 (kKid s) s.H.h++(asIs (fkM s) s.H.h++[.row te x.2 0 (ce.map fun _=>.cu)])))))),
   [],fun _=>[],fun s=>match ceS (tmK 15 s) 25 s.H.h,capK (kEvs s) s.H.h with
   | some (_,n,_),some c=>fN n fun n=>(match Nat.beq n 1 with | true=>some (0,c) | false=>some (1,c))
   | _,_=>none,fun x=>x.1=1,fun _=>0⟩
 | _=>none
def fMc:FuncId:=3
def conMc:Con:=Con.add 8 conYes (Con.add 19 conDec (Con.add fSc cSc (Con.add fEv cEvN (Con.add fCz cCz (Con.add fDr cDr (Con.add fSr cSr (Con.add fQc cQc (conU con0))))))))
def verMc (g0 g1:Nat->Int) (l0 c0 l1 c1:Nat) (d t:Int) (m:Nat->Int):V:=verF P conMc 6 8 fMc [] (.cutS 12021 (fun _=>.one 1) Nat laKc .nil (.loop _ [] (laMc 17 fun r _=>some r.1) (.loop _ [] (laMc 18 fun r s=>(tmI 17 s).map fun i=>r.2 i.toNat) .nil .nil) .nil))
 [.c (slK 0 1 l0 c0),.c (slK 1 1 l1 c1),iv d,iv t,.a [i6 (m 0),i6 (m 1),i6 (m 2),i6 (m 3),i6 (m 4)]] ⟨[(0,ints .u8 l0 g0),(1,ints .u8 l1 g1)],2,fun _=>True⟩ yesV
end
abbrev znmc30 (l:LP):LP:=(6,.lt2 0 1 0 1)::(2,.lt 0 1)::(5,.lt2 0 1 0 1)::l
theorem vAw8_eq :V.pr .z (vAw8)=
 nN (znmc30 ((3,.lt 0 1)::znmc30 ((3,.lt 0 1)::znmc30 ((3,.lt 0 1)::znmc30 ((3,.lt 0 1)::znmc30 [(5,.lt 0 1)]))))) (U True (U (((if 0=0/\0=0 then u64.wrap ((if 0=0/\0=0 then u64.wrap ((if 0=0/\0=0 then u64.wrap ((if 0=0/\0=0 then u64.wrap ((if 0=0/\0=0 then u64.wrap (O 0+O 1) else O 0)+O 1) else if 0=0/\0=0 then u64.wrap (O 0+O 1) else O 0)+O 1) else if 0=0/\0=0 then u64.wrap ((if 0=0/\0=0 then u64.wrap (O 0+O 1) else O 0)+O 1) else if 0=0/\0=0 then u64.wrap (O 0+O 1) else O 0)+O 1) else if 0=0/\0=0 then u64.wrap ((if 0=0/\0=0 then u64.wrap ((if 0=0/\0=0 then u64.wrap (O 0+O 1) else O 0)+O 1) else if 0=0/\0=0 then u64.wrap (O 0+O 1) else O 0)+O 1) else if 0=0/\0=0 then u64.wrap ((if 0=0/\0=0 then u64.wrap (O 0+O 1) else O 0)+O 1) else if 0=0/\0=0 then u64.wrap (O 0+O 1) else O 0)+O 1) else if 0=0/\0=0 then u64.wrap ((if 0=0/\0=0 then u64.wrap ((if 0=0/\0=0 then u64.wrap ((if 0=0/\0=0 then u64.wrap (O 0+O 1) else O 0)+O 1) else if 0=0/\0=0 then u64.wrap (O 0+O 1) else O 0)+O 1) else if 0=0/\0=0 then u64.wrap ((if 0=0/\0=0 then u64.wrap (O 0+O 1) else O 0)+O 1) else if 0=0/\0=0 then u64.wrap (O 0+O 1) else O 0)+O 1) else if 0=0/\0=0 then u64.wrap ((if 0=0/\0=0 then u64.wrap ((if 0=0/\0=0 then u64.wrap (O 0+O 1) else O 0)+O 1) else if 0=0/\0=0 then u64.wrap (O 0+O 1) else O 0)+O 1) else if 0=0/\0=0 then u64.wrap ((if 0=0/\0=0 then u64.wrap (O 0+O 1) else O 0)+O 1) else if 0=0/\0=0 then u64.wrap (O 0+O 1) else O 0) == O 5)=true) V.ok)):=by kernel_rfl
abbrev znmc2 (a0:Rk) (a1:Rm) (k:V):V:=U (∀ (i:Nat),gd a0.n a1.k i=gd a0.n a1.k i\/gd a0.n a1.k i=0) (U (∀ (i:Nat),gd a0.n a0.kl i<=gd a0.n a1.k i/\gd a0.n a0.kl i<=gd a0.n a0.kl i) k)
abbrev znmc24 (a0:Rk) (a1:Rm) (k:V):V:=U (0<=a0.n) (znmc2 a0 a1 k)
abbrev znmc26 (a0:Nat) (k:V):V:=nN [qE a0] (U (0<=0+1+1) k)
abbrev znmc4 (a0:Cf) (k:V):V:=U (∀ (i:Nat),gd a0.nP a0.FC i=gd a0.nP a0.FC i\/gd a0.nP a0.FC i=0) (U (∀ (i:Nat),gd a0.nP a0.lenP i<=gd a0.nP a0.FC i/\gd a0.nP a0.lenP i<=gd a0.nP a0.lenP i) (nN [(1,.pf (∀ (i e:Nat),e < gd a0.nP a0.lenP i->a0.iO i e=a0.iO i e) (by intros; rfl))] k))
abbrev znmc27 (a0:Cf) (k:V):V:=znmc4 a0 (nN [(1,.pf (∀ (i e:Nat),e < gd a0.nP a0.lenP i->a0.iA i e=a0.iA i e) (by intros; rfl)),(1,.pf (∀ (i e:Nat),e < gd a0.nP a0.lenP i->a0.iB i e=a0.iB i e) (by intros; rfl))] k)
abbrev znmc33 (a0:Rk) (l:LP):LP:=(6,.lt2 0 1 0 1)::qE a0.n::l
abbrev znmc3 (k:V):V:=U (0 < 1/\0 < 0+1) (U (0 < 1/\0 < 0+1) k)
abbrev znmc34 (k:V):V:=nN [qE false,(3,.lt2 0 1 0 1)] (U (O 0<=O 0/\O 0 < (↑(0+1):Int)) (znmc3 (znmc3 (znmc3 k))))
abbrev znmc1 (a0:Nat->Int) (k:V):V:=nN [(5,.lt2 0 1 0 1)] (U ((!((if 0=0/\0=0 then a0 0 else O 0) == a0 0&&((if 0=0/\0=0 then a0 1 else O 0) == a0 1&&((if 0=0/\0=0 then a0 2 else O 0) == a0 2&&((if 0=0/\0=0 then a0 3 else O 0) == a0 3&&((if 0=0/\0=0 then a0 4 else O 0) == a0 4&&true))))))=false) k)
abbrev znmc35 (a0:Nat->Int) (k:V):V:=znmc1 a0 (nN [(1,.eq 1 1)] k)
abbrev znmc0 (a0:Rk) (a1:Rm) (k:V):V:=U (∀ (i:Nat),i < a0.n->a0.kl i<=upto a0.n a0.kl i/\a0.kl i<=a1.k i) (nN [(1,.pf (∀ (i e:Nat),i < a0.n/\e < a0.kl i->a0.kd i e=a0.kd i e) (by intros; rfl))] k)
abbrev znmc21 (a0:Rk) (a1:Rm) (l:LP):LP:=(1,.le 1 1)::(1,.pf (∀ (i:Nat),i < 1->a0.n<=a0.n) (by intros; exact Z _))::(1,.pf (∀ (i e:Nat),i < 1/\e < a0.n->a0.p e=a0.p e) (by intros; rfl))::(1,.pf (∀ (i e:Nat),i < 1/\e < a0.n->a0.pa e=a0.pa e) (by intros; rfl))::(1,.pf (∀ (i e:Nat),i < 1/\e < a0.n->a0.pc e=a0.pc e) (by intros; rfl))::(1,.pf (∀ (i e:Nat),i < 1/\e < a0.n->a0.lf e=a0.lf e) (by intros; rfl))::(1,.pf (∀ (i e:Nat),i < 1/\e < a0.n->a0.wt e=a0.wt e) (by intros; rfl))::(1,.pf (∀ (i e:Nat),i < 1/\e < a0.n->e=e) (by intros; rfl))::(1,.pf (∀ (i e:Nat),i < 1/\e < a0.n->a0.kl e=a0.kl e) (by intros; rfl))::(1,.pf (∀ (i e:Nat),i < 1/\e < a0.n->a1.k e=a1.k e) (by intros; rfl))::(1,.pf (∀ (i e:Nat),i < 1/\e < a0.n->a0.st e=a0.st e) (by intros; rfl))::l
abbrev znmc38 (a0:Rk) (a1 a2:Rm) (k:V):V:=nN (znmc21 a0 a1 (znmc21 a0 a2 [])) (znmc0 a0 a1 (znmc0 a0 a2 (U (okRk a0) (nN [(3,.lt2 0 1 0 1)] k))))
abbrev znmcs0 (y2:Ev) (m:Nat->Int) (y4:Cf×Rm) (y0:Cf) (y8:Nat):V:=nN (znmc33 y2.x [qE y2.a.r,qE y2.x.n,qE y2.b.r]) (znmc38 y2.x y2.a y2.b (znmc34 (znmc35 m (nN [qE y4.snd.c] (U (0<=y2.n) (nN [qE y4.snd.r] (znmc24 y2.x y4.snd (znmc27 y0 (znmc26 y8 V.ok)))))))))
abbrev znmc5 (a0:Ev) (a1:Mm) (l:LP):LP:=(1,.pf (∀ (i:Nat),i < 1->a0.n<=a0.n) (by intros; exact Z _))::(1,.pf (∀ (i e:Nat),i < 1/\e < a0.n->a1.g e=a1.g e) (by intros; rfl))::l
abbrev znmc6 (l:LP):LP:=(1,.le 1 1)::(1,.pf (∀ (i:Nat),i < 1->1<=1) (by intros; exact Z _))::l
abbrev znmc13 (a0:Rm) (k:V):V:=nN [(18,.lt2 0 1 0 1)] (U (0+1<=0+1/\a0.e=a0.e) k)
abbrev znmc15 (a0:Ev) (k:V):V:=nN [(9,.lt2 0 1 0 1)] (U ((a0.now != a0.now)=false) k)
abbrev znmc20 (a0:Int) (k:V):V:=nN [(2,.lt2 0 1 0 1)] (U (decide (a0 >= O 0)=true) k)
abbrev znmc36 (a0:Int) (a1:Ev) (k:V):V:=U (O 0<=a0/\a0 < (↑a1.n:Int)) (U (0 < 1/\0+a0.toNat < a1.n) (U (0 < 1/\0+a0.toNat < a1.n) k))
abbrev znmc23 (k:V):V:=U (O 0<=O 0/\O 0 < (↑(0+1+1):Int)) (U (0 < 0+1+1) (U (0 < 0+1+1) (U (0 < 0+1+1) k)))
abbrev znmc39 (k:Nat->V):V:=U (0+1+1<=9223372036854775807/\(0+1+1) * 40<=140737488355328) (V.any Nat (fun (x:Nat)=>0+1+1<=x) fun v0=>nN [(2,.lt2 0 1 0 1)] (znmc23 (znmc23 (nN [(3,.lt2 0 1 0 1)] (k v0)))))
abbrev znmcs1 (y4:Cf×Rm) (y5:Int) (y2:Ev) (m:Nat->Int) (y0:Cf):V:=znmc13 y4.snd (znmc39 fun y8=>nN (qE y5::znmc6 (qE y2.n::qE y2.a.c::qE y2.m.ct::(1,.le 1 1)::znmc5 y2 y2.m [])) (znmc20 y5 (nN [(3,.lt2 0 1 0 1)] (U ((!decide (y5 < (↑y2.n:Int)))=false) (nN [(3,.lt2 0 1 0 1)] (znmc36 y5 y2 (V.br (y2.m.val y2.n y5 != y2.m.g (0+y5.toNat)) (V.bad 420) (znmc15 y2 (znmcs0 y2 m y4 y0 y8)))))))))
abbrev znmc28 (a0:Mm) (a1:Ev) (a2:Int) (k:V):V:=V.br (a0.val a1.n a2 != O 0) (V.bad 420) (znmc15 a1 k)
abbrev znmcs2 (y4:Cf×Rm) (y5:Int) (y2:Ev) (m:Nat->Int) (y0:Cf):V:=znmc13 y4.snd (znmc39 fun y8=>nN (qE y5::znmc6 (qE y2.n::qE y2.a.c::qE y2.m.ct::(1,.le 1 1)::znmc5 y2 y2.m [])) (znmc20 y5 (nN [(3,.lt2 0 1 0 1)] (U ((!decide (y5 < (↑y2.n:Int)))=true) (znmc28 y2.m y2 y5 (znmcs0 y2 m y4 y0 y8))))))
abbrev znmcs3 (y4:Cf×Rm) (y5:Int) (y2:Ev) (m:Nat->Int) (y0:Cf):V:=znmc13 y4.snd (znmc39 fun y8=>nN (qE y5::znmc6 (qE y2.n::qE y2.a.c::qE y2.m.ct::(1,.le 1 1)::znmc5 y2 y2.m [(2,.lt2 0 1 0 1)])) (U (decide (y5 >= O 0)=false) (znmc28 y2.m y2 y5 (znmcs0 y2 m y4 y0 y8))))
abbrev znmc7 (a0:Cf) (k:V):V:=U (∀ (i:Nat),i < a0.nP->a0.lenP i<=gd a0.nP a0.lenP i/\a0.lenP i<=gd a0.nP a0.FC i) (nN [(1,.pf (∀ (i e:Nat),i < a0.nP/\e < a0.lenP i->a0.iO i e=a0.iO i e) (by intros; rfl))] k)
abbrev znmc8 (a0:Cf) (l:LP):LP:=(1,.pf (∀ (i e:Nat),i < a0.nP/\e < a0.lenP i->a0.iA i e=a0.iA i e) (by intros; rfl))::(1,.pf (∀ (i e:Nat),i < a0.nP/\e < a0.lenP i->a0.iB i e=a0.iB i e) (by intros; rfl))::l
abbrev znmc9 (a0:Rk) (l:LP):LP:=(1,.pf (∀ (i e:Nat),i=0/\e < a0.n->a0.pa e=a0.pa e) (by intros; rfl))::(1,.pf (∀ (i e:Nat),i=0/\e < a0.n->a0.pc e=a0.pc e) (by intros; rfl))::l
abbrev znmc10 (a0:Rk) (l:LP):LP:=(1,.pf (∀ (i e:Nat),i=0/\e < a0.n->a0.lf e=a0.lf e) (by intros; rfl))::(1,.pf (∀ (i e:Nat),i=0/\e < a0.n->a0.wt e=a0.wt e) (by intros; rfl))::l
abbrev znmc11 (a0:Rk) (l:LP):LP:=(1,.pf (∀ (i e:Nat),i=0/\e < a0.n->e=e) (by intros; rfl))::(1,.pf (∀ (i e:Nat),i=0/\e < a0.n->a0.kl e=a0.kl e) (by intros; rfl))::l
abbrev znmc12 (a0:Rk) (a1:Rm) (l:LP):LP:=(1,.pf (∀ (i e:Nat),i=0/\e < a0.n->a1.k e=a1.k e) (by intros; rfl))::(1,.pf (∀ (i e:Nat),i=0/\e < a0.n->a0.st e=a0.st e) (by intros; rfl))::l
abbrev znmc14 (a0:Nat) (a1:Nat->Int) (l:LP):LP:=(1,.pf (∀ (i:Nat),i < 1->a0<=a0) (by intros; exact Z _))::(1,.pf (∀ (i e:Nat),i < 1/\e < a0->a1 e=a1 e) (by intros; rfl))::l
abbrev znmc16 (a0:Rk) (a1:Rm) (k:V):V:=U (a0.n<=a0.n/\a0.n<=a1.r) (nN [(1,.pf (∀ (i e:Nat),i=0/\e < a0.n->a0.p e=a0.p e) (by intros; rfl))] k)
abbrev znmc17 (a0:Rk) (k:V):V:=U (O 0<=O 0/\O 0 < (↑(a0.kl 0):Int)) (U (0 < gd a0.n a0.kl 0) (U (0 < gd a0.n a0.kl 0) k))
abbrev zdj (a0:Rk) (k:V):V:=U (O 0<=O 0/\O 0 < (↑a0.n:Int)) (U (0 < a0.n) (U (0 < a0.n) (U (0 < a0.n) k)))
abbrev znmc19 (a0:Mm) (a1:Ev) (a2 a3:Int) (k:Mm->V):V:=nN [qX (a0.acc a1.n (O 2) a2 (u64.wrap (u64.wrap (u64.wrap a3+O 1)+O 0)))] (V.any Mm (fun (m':Mm)=>m'=a0.acc a1.n (O 2) a2 (u64.wrap (u64.wrap (u64.wrap a3+O 1)+O 0))) fun v0=>k v0)
abbrev znmc22 (a0:Cf) (l:LP):LP:=(1,.pf (∀ (i e:Nat),i=0/\e < a0.nP->a0.lenP e=a0.lenP e) (by intros; rfl))::(1,.pf (∀ (i e:Nat),i=0/\e < a0.nP->a0.FC e=a0.FC e) (by intros; rfl))::l
abbrev znmc25 (a0:Cf) (a1:Int×(Nat->Nat->Int)) (l:LP):LP:=(1,.pf (∀ (i e:Nat),e < gd a0.nP a0.lenP i->a1.snd i e=a1.snd i e) (by intros; rfl))::(1,.pf (∀ (i e:Nat),e < gd a0.nP a0.lenP i->a0.iB i e=a0.iB i e) (by intros; rfl))::l
abbrev znmc29 (a0:Cf) (k:V):V:=U (a0.nP<=a0.nP/\a0.nP<=a0.rc) (nN [(1,.pf (∀ (i e:Nat),i=0/\e < a0.nP->e=e) (by intros; rfl))] k)
abbrev znmc31 (a0:Int×(Nat->Nat->Int)) (a1:Cf) (a2:Int×(Nat->Nat->Int)) (k:V):V:=U (O 0<=a0.fst/\a0.fst < (↑(a1.lenP (0+a2.fst.toNat)):Int)) (U (0+a0.fst.toNat < gd a1.nP a1.lenP (0+a2.fst.toNat)) k)
abbrev znmc32 (a0:Cf) (l:LP):LP:=(1,.pf (∀ (i e:Nat),i=0/\e < a0.nU->a0.uP e=a0.uP e) (by intros; rfl))::(1,.pf (∀ (i e:Nat),i=0/\e < a0.nU->a0.uL e=a0.uL e) (by intros; rfl))::(1,.pf (∀ (i e:Nat),i=0/\e < a0.nU->a0.uD e=a0.uD e) (by intros; rfl))::l
abbrev znmc37 (a0:Int×(Nat->Nat->Int)) (a1:Cf) (k:V):V:=U (O 0<=a0.fst/\a0.fst < (↑a1.nP:Int)) (U (0 < 1/\0+a0.fst.toNat < a1.nP) k)
abbrev znmc40 (a0:Int×(Nat->Nat->Int)) (a1:Cf) (a2:Int×(Nat->Nat->Int)) (k:V):V:=U (0+a0.fst.toNat < gd a1.nP a1.lenP (0+a2.fst.toNat)) (U (0+a0.fst.toNat < gd a1.nP a1.lenP (0+a2.fst.toNat)) k)
theorem verMc_eq (g0 g1:Nat->Int) (l0 c0 l1 c1:Nat) (d t:Int) (m:Nat->Int):V.pr (.b .z (.b .z (.f (.f (.b (.b (.b (.b (.t (.t (.b .z (.f (.f (.f .z)))))) (.t (.t (.b .z (.f (.f (.f .z))))))) (.b (.t (.f (.b .z (.f (.f (.f .z)))))) (.t (.f (.b .z (.f (.f (.f .z)))))))) (.b (.f (.b .z (.f (.f (.f .z))))) (.f (.b .z (.f (.f (.f .z))))))) .z))))) (verMc g0 g1 l0 c0 l1 c1 d t m)=
 V.br (!decide ((↑l0:Int)<=O 400)) (V.ok) (V.br (decide ((↑l1:Int) > O 300)) (V.ok) (nN (qE l0::qE c0::(1,.le 1 1)::znmc14 l0 g0 []) (U (U8 l0 fun (e:Nat)=>g0 e) (nA (zcc g0 l0) fun y0=>nN ((11,.lt2 0 1 0 1)::qE l1::qE c1::(1,.eqI 150 150)::(1,.le 1 1)::znmc14 l1 g1 []) (U (l1<=1000000/\O 0<=O 150) (nA (okSc (O 150)) fun y1=>nN [qE y0.W,qE y0.L,qE y0.C,qE y0.T,qE y0.D,qE y0.H,qE y0.B,qE y0.A,qE y0.P,qE y0.nP,qE y0.rc,qE y0.nU,qE y0.cu,qE y1.n,qE y1.cap,(1,.le 1 1)] (znmc29 y0 (nN (znmc22 y0 [(1,.le 1 1)]) (U (y0.nU<=y0.nU/\y0.nU<=y0.cu) (nN (znmc32 y0 []) (znmc7 y0 (nN (znmc8 y0 [(1,.le 1 1)]) (U (y1.n<=y1.n/\y1.n<=y1.cap) (nN [(1,.pf (∀ (i e:Nat),i=0/\e < y1.n->y1.ka e=y1.ka e) (by intros; rfl)),(1,.pf (∀ (i e:Nat),i=0/\e < y1.n->y1.va e=y1.va e) (by intros; rfl)),(1,.le 0 1)] (U (∀ (i:Nat),i < 0->0<=l0) (U (preEv y0 y1.n) (nA (okEv y0) fun y2=>U True (nN [(13,.lt2 0 1 0 1)] (U (0<=0/\y2.a.e=y2.a.e) (U (0+1<=9223372036854775807/\(0+1) * 40<=140737488355328) (V.any Nat (fun (x:Nat)=>0+1<=x) fun y3=>nN [(2,.lt2 0 1 0 1),qE y2.d.W,qE y2.d.L,qE y2.d.C,qE y2.d.T,qE y2.d.D,qE y2.d.H,qE y2.d.B,qE y2.d.A,qE y2.d.P,qE y2.d.nP,qE y2.d.rc,qE y2.d.nU,qE y2.d.cu] (U (y0.W=y2.d.W) (U (y0.L=y2.d.L) (U (y0.C=y2.d.C) (U (y0.T=y2.d.T) (U (y0.D=y2.d.D) (U (y0.H=y2.d.H) (U (lS y0=lS y2.d) (U (lE y0=lE y2.d) (U (lB y0=lB y2.d) (U (lQ y0=lQ y2.d) (U (lT y0=lT y2.d) (nN [qE y2.x.n,qE y2.a.r,qE (0+1),qE y3,qE y2.n,qE y2.a.c,qE y2.m.lk,qE y2.m.lc,qE y2.m.lo,qE y2.m.ln,qE y2.m.ct,(1,.le 1 1)] (U (y2.n<=y2.n/\y2.n<=y2.a.c) (nN [(1,.pf (∀ (i e:Nat),i=0/\e < y2.n->y2.m.g e=y2.m.g e) (by intros; rfl)),qE y2.now,qE y2.dr,(1,.le 1 1)] (znmc16 y2.x y2.a (nN (znmc9 y2.x (znmc10 y2.x (znmc11 y2.x (znmc12 y2.x y2.a [])))) (znmc0 y2.x y2.a (nN [(1,.le 1 1)] (U (0+1<=0+1/\0+1<=y3) (U (∀ (i e:Nat),i=0/\e < 0+1->(if i=0/\e=0 then m 0 else O 0)=if 0=0/\e=0 then m 0 else O 0) (U (∀ (i e:Nat),i=0/\e < 0+1->(if i=0/\e=0 then m 1 else O 0)=if 0=0/\e=0 then m 1 else O 0) (U (∀ (i e:Nat),i=0/\e < 0+1->(if i=0/\e=0 then m 2 else O 0)=if 0=0/\e=0 then m 2 else O 0) (U (∀ (i e:Nat),i=0/\e < 0+1->(if i=0/\e=0 then m 3 else O 0)=if 0=0/\e=0 then m 3 else O 0) (U (∀ (i e:Nat),i=0/\e < 0+1->(if i=0/\e=0 then m 4 else O 0)=if 0=0/\e=0 then m 4 else O 0) (nN [(1,.le 1 1)] (znmc29 y2.d (nN (znmc22 y2.d [(1,.le 1 1)]) (U (y2.d.nU<=y2.d.nU/\y2.d.nU<=y2.d.cu) (nN (znmc32 y2.d []) (znmc7 y2.d (nN (znmc8 y2.d []) (U (preCz { y2 with a:={ y2.a with e:=y3 },b:=Rm.mk 0 0 (fun (x:Nat)=>0) 0 } (El.mk (0+1) (Evs.mk (fun (i:Nat)=>if 0=0/\i=0 then m 0 else O 0) (fun (i:Nat)=>if 0=0/\i=0 then m 1 else O 0) (fun (i:Nat)=>if 0=0/\i=0 then m 2 else O 0) (fun (i:Nat)=>if 0=0/\i=0 then m 3 else O 0) fun (i:Nat)=>if 0=0/\i=0 then m 4 else O 0))) (nA (okCz { y2 with a:={ y2.a with e:=y3 },b:=Rm.mk 0 0 (fun (x:Nat)=>0) 0 } (El.mk (0+1) (Evs.mk (fun (i:Nat)=>if 0=0/\i=0 then m 0 else O 0) (fun (i:Nat)=>if 0=0/\i=0 then m 1 else O 0) (fun (i:Nat)=>if 0=0/\i=0 then m 2 else O 0) (fun (i:Nat)=>if 0=0/\i=0 then m 3 else O 0) fun (i:Nat)=>if 0=0/\i=0 then m 4 else O 0))) fun y4=>nN [(12,.lt2 0 1 0 1)] (znmc34 (znmc1 m (nN (znmc33 y2.x [qE y4.snd.r,qE y2.x.n,qE y2.b.r,(1,.le 1 1)]) (znmc16 y2.x y4.snd (nN (znmc9 y2.x (znmc10 y2.x (znmc11 y2.x (znmc12 y2.x y4.snd [(1,.le 1 1)])))) (znmc16 y2.x y2.b (nN (znmc9 y2.x (znmc10 y2.x (znmc11 y2.x (znmc12 y2.x y2.b [])))) (U (∀ (i:Nat),i < y2.x.n->y2.x.kl i<=gd y2.x.n y2.x.kl i/\y2.x.kl i<=gd y2.x.n y4.snd.k i) (nN [(1,.pf (∀ (i e:Nat),i < y2.x.n/\e < y2.x.kl i->y2.x.kd i e=y2.x.kd i e) (by intros; rfl))] (znmc0 y2.x y2.b (U (okRk y2.x) (nN [qE d,qE ((↑y2.n:Int))] (U ((↑y2.n:Int)<=O 9223372036854775807) (nN [qX (dr d (↑y2.n:Int))] (V.any Int (fun (r:Int)=>r=dr d (↑y2.n:Int)) fun y5=>nN [qE y4.fst.W,qE y4.fst.L,qE y4.fst.C,qE y4.fst.T,qE y4.fst.D,qE y4.fst.H,qE y4.fst.B,qE y4.fst.A,qE y4.fst.P,qE y4.fst.nP,qE y4.fst.rc,qE y4.fst.nU,qE y4.fst.cu,qE y2.d.W,qE y2.d.L,qE y2.d.C,qE y2.d.T,qE y2.d.D,qE y2.d.H,qE (lS y2.d),qE (lE y2.d),qE (lB y2.d),qE (lQ y2.d),qE (lT y2.d),qE y2.x.n,qE y4.snd.r,qE (0+1),qE y4.snd.e,qE y2.n,qE y4.snd.c,qE y2.m.lk,qE y2.m.lc,qE y2.m.lo,qE y2.m.ln,qE y2.m.ct,qE y4.snd.c,qL y2.n,qF y2.n y2.m.g,qE y2.now,qE y2.dr,qE y4.snd.r,qL y2.x.n,qF y2.x.n y2.x.p,qF y2.x.n y2.x.pa,qF y2.x.n y2.x.pc,qF y2.x.n y2.x.lf,qF y2.x.n y2.x.wt,qF y2.x.n (fun (e:Nat)=>e),qF y2.x.n y2.x.kl,qF y2.x.n y4.snd.k,qF y2.x.n y2.x.st] (znmc2 y2.x y4.snd (nN [(1,.pf (∀ (i e:Nat),e < gd y2.x.n y2.x.kl i->y2.x.kd i e=y2.x.kd i e) (by intros; rfl))] (znmc27 y0 (nN [qE y4.snd.e] (U (0+1<=0+1) (nN [qF (0+1) (fun (e:Nat)=>if 0=0/\e=0 then m 0 else O 0),qF (0+1) (fun (e:Nat)=>if 0=0/\e=0 then m 1 else O 0),qF (0+1) (fun (e:Nat)=>if 0=0/\e=0 then m 2 else O 0),qF (0+1) (fun (e:Nat)=>if 0=0/\e=0 then m 3 else O 0),qF (0+1) (fun (e:Nat)=>if 0=0/\e=0 then m 4 else O 0)] (V.any Bool (fun (x:Bool)=>True) fun y6=>V.br y6 (nN [(5,.lt2 0 1 0 1)] (V.br (decide (y5 >= O 0)) (nN [(3,.lt2 0 1 0 1)] (V.br (!decide (y5 < (↑y2.n:Int))) (nN [qE y5,qE (u64.wrap (u64.wrap (u64.wrap t+O 1)+O 0)),qE y2.n,qE y4.snd.c,qE y2.m.lk,qE y2.m.lc,qE y2.m.lo,qE y2.m.ln,qE y2.m.ct,qE y4.snd.c,qL y2.n,qF y2.n y2.m.g] (znmc19 y2.m y2 y5 t fun y7=>zdj y2.x (zdj y2.x (zdj y2.x (V.br (decide ((↑(y2.x.kl 0):Int) > O 0)) (zdj y2.x (znmc17 y2.x (znmc17 y2.x (znmcs2 y4 y5 y2 m y0)))) (znmcs2 y4 y5 y2 m y0)))))) (nN [(3,.lt2 0 1 0 1)] (znmc36 y5 y2 (nN [qE y5,qE (u64.wrap (u64.wrap (u64.wrap t+O 1)+y2.m.g (0+y5.toNat))),qE y2.n,qE y4.snd.c,qE y2.m.lk,qE y2.m.lc,qE y2.m.lo,qE y2.m.ln,qE y2.m.ct,qE y4.snd.c,qL y2.n,qF y2.n y2.m.g,qX (y2.m.acc y2.n (O 2) y5 (u64.wrap (u64.wrap (u64.wrap t+O 1)+y2.m.g (0+y5.toNat))))] (V.any Mm (fun (m':Mm)=>m'=y2.m.acc y2.n (O 2) y5 (u64.wrap (u64.wrap (u64.wrap t+O 1)+y2.m.g (0+y5.toNat)))) fun y7=>zdj y2.x (zdj y2.x (zdj y2.x (V.br (decide ((↑(y2.x.kl 0):Int) > O 0)) (zdj y2.x (znmc17 y2.x (znmc17 y2.x (znmcs1 y4 y5 y2 m y0)))) (znmcs1 y4 y5 y2 m y0)))))))))) (nN [qE y5,qE (u64.wrap (u64.wrap (u64.wrap t+O 1)+O 0)),qE y2.n,qE y4.snd.c,qE y2.m.lk,qE y2.m.lc,qE y2.m.lo,qE y2.m.ln,qE y2.m.ct,qE y4.snd.c,qL y2.n,qF y2.n y2.m.g] (znmc19 y2.m y2 y5 t fun y7=>zdj y2.x (zdj y2.x (zdj y2.x (V.br (decide ((↑(y2.x.kl 0):Int) > O 0)) (zdj y2.x (znmc17 y2.x (znmc17 y2.x (znmcs3 y4 y5 y2 m y0)))) (znmcs3 y4 y5 y2 m y0)))))))) (U (∀ (x:Nat×Nat),x.fst=1->x.fst=1) (V.any Nat (fun (x:Nat)=>1=1) fun y7=>U (O 0<=O 0/\O 0<=(↑y0.nP:Int)) (nN [(1,.eqI 0 0)] (znmc27 y0 (V.any (Int×(Nat->Nat->Int)) (fun (x_8:Int×(Nat->Nat->Int))=>O 0<=x_8.fst/\x_8.fst<=(↑y0.nP:Int)) fun y8=>nN [(2,.lt2 0 1 0 1)] (V.br (decide (y8.fst < (↑y0.nP:Int))) (U (O 0<=O 0/\O 0<=(↑(y0.lenP y8.fst.toNat):Int)) (nN [(1,.eqI 0 0)] (znmc4 y0 (nN (znmc25 y0 y8 []) (V.any (Int×(Nat->Nat->Int)) (fun (x_9:Int×(Nat->Nat->Int))=>O 0<=x_9.fst/\x_9.fst<=(↑(y0.lenP y8.fst.toNat):Int)) fun y9=>nN [(2,.lt2 0 1 0 1)] (znmc37 y8 y0 (U (0 < 1/\0+y8.fst.toNat < y0.nP) (V.br (decide (y9.fst < (↑(y0.lenP (0+y8.fst.toNat)):Int))) (nN [(2,.lt2 0 1 0 1)] (znmc37 y8 y0 (U (0 < 1/\0+y8.fst.toNat < y0.nP) (znmc31 y9 y0 y8 (znmc40 y9 y0 y8 (znmc31 y9 y0 y8 (znmc40 y9 y0 y8 (U (O 0<=i64.wrap (y9.fst+O 1)/\i64.wrap (y9.fst+O 1)<=(↑(y0.lenP y8.fst.toNat):Int)) (U (y0.lenP y8.fst.toNat - (i64.wrap (y9.fst+O 1)).toNat < y0.lenP y8.fst.toNat - y9.fst.toNat) (nN [qE (i64.wrap (y9.fst+O 1))] (znmc4 y0 (U (∀ (i e:Nat),e < gd y0.nP y0.lenP i->(if i=0+y8.fst.toNat/\e=0+y9.fst.toNat then i64.wrap (y9.snd (0+y8.fst.toNat) (0+y9.fst.toNat)+O 7) else y9.snd i e)=if i=0+y8.fst.toNat/\e=0+y9.fst.toNat then i64.wrap (y9.snd (0+y8.fst.toNat) (0+y9.fst.toNat)+O 7) else y9.snd i e) (nN [(1,.pf (∀ (i e:Nat),e < gd y0.nP y0.lenP i->y0.iB i e=y0.iB i e) (by intros; rfl))] V.ok))))))))))))) (U (O 0<=i64.wrap (y8.fst+O 1)/\i64.wrap (y8.fst+O 1)<=(↑y0.nP:Int)) (U (y0.nP - (i64.wrap (y8.fst+O 1)).toNat < y0.nP - y8.fst.toNat) (nN [qE (i64.wrap (y8.fst+O 1))] (znmc4 y0 (nN (znmc25 y0 y9 []) V.ok))))))))))))) (nN ((13,.lt2 0 1 0 1)::qE l0::qE c0::(1,.le 1 1)::znmc14 l0 g0 []) (U (U8 l0 fun (e:Nat)=>g0 e) (nA (zcc g0 l0) fun y9=>nN [qE y2.d.W,qE y2.d.L,qE y2.d.C,qE y2.d.T,qE y2.d.D,qE y2.d.H,qE y2.d.B,qE y2.d.A,qE y2.d.P,qE y2.d.nP,qE y2.d.rc,qE y2.d.nU,qE y2.d.cu] (U (y9.W=y2.d.W) (U (y9.L=y2.d.L) (U (y9.C=y2.d.C) (U (y9.T=y2.d.T) (U (y9.D=y2.d.D) (U (y9.H=y2.d.H) (U (y9.B=y2.d.B) (U (y9.A=y2.d.A) (U (y9.P=y2.d.P) (U (y9.nP=y2.d.nP) (nN [qE y9.rc] (U (y9.nU=y2.d.nU) (nN [qE y9.cu,(1,.le 1 1),(1,.pf (∀ (i:Nat),i < 1->y2.d.nP<=y2.d.nP) (by intros; exact Z _)),(1,.pf (∀ (i e:Nat),i < 1/\e < y2.d.nP->e=e) (by intros; rfl)),(1,.pf (∀ (i e:Nat),i < 1/\e < y2.d.nP->y2.d.lenP e=y2.d.lenP e) (by intros; rfl)),(1,.pf (∀ (i e:Nat),i < 1/\e < y2.d.nP->y2.d.FC e=y2.d.FC e) (by intros; rfl)),(1,.le 1 1),(1,.pf (∀ (i:Nat),i < 1->y2.d.nU<=y2.d.nU) (by intros; exact Z _)),(1,.pf (∀ (i e:Nat),i < 1/\e < y2.d.nU->y2.d.uP e=y2.d.uP e) (by intros; rfl)),(1,.pf (∀ (i e:Nat),i < 1/\e < y2.d.nU->y2.d.uL e=y2.d.uL e) (by intros; rfl)),(1,.pf (∀ (i e:Nat),i < 1/\e < y2.d.nU->y2.d.uD e=y2.d.uD e) (by intros; rfl))] (znmc7 y2.d (nN (znmc8 y2.d [(1,.le 1 1)]) (U (y2.d.nP<=y9.nP/\y2.d.nP<=y9.rc) (nN [(1,.pf (∀ (i e:Nat),i=0/\e < y2.d.nP->e=e) (by intros; rfl))] (U (∀ (i e:Nat),i=0/\e < y2.d.nP->y9.lenP e=y2.d.lenP e) (nN [(1,.pf (∀ (i e:Nat),i=0/\e < y2.d.nP->y9.FC e=y9.FC e) (by intros; rfl)),(1,.le 1 1)] (U (y2.d.nU<=y9.nU/\y2.d.nU<=y9.cu) (U (∀ (i e:Nat),i=0/\e < y2.d.nU->y9.uP e=y2.d.uP e) (U (∀ (i e:Nat),i=0/\e < y2.d.nU->y9.uL e=y2.d.uL e) (U (∀ (i e:Nat),i=0/\e < y2.d.nU->y9.uD e=y2.d.uD e) (U (∀ (i:Nat),i < y2.d.nP->y2.d.lenP i<=gd y9.nP y9.lenP i/\y2.d.lenP i<=gd y9.nP y9.FC i) (U (∀ (i e:Nat),i < y2.d.nP/\e < y2.d.lenP i->y9.iO i e=y2.d.iO i e) (U (∀ (i e:Nat),i < y2.d.nP/\e < y2.d.lenP i->y9.iA i e=y2.d.iA i e) (U (∀ (i e:Nat),i < y2.d.nP/\e < y2.d.lenP i->y9.iB i e=y2.d.iB i e) (U (preE y2.d) V.ok))))))))))))))))))))))))))))))))))))))))))))))))))))))))))))))))))))))))))))))))))))))))))))))))))))))))))))))))):=by kernel_rfl
end Go.Proofs.YtfkdlkidflgalaaGreat.En
namespace Go.Proofs.YtfkdlkidflgalaaGreat.En
open Go Go.RowKit Go.ChangeShapes Go.WideShapes Sx Cn Dc Ck Vc Md
theorem agg_five {cs:Array Value} {v0 v1 v2 v3 v4:Value} (hs:cs.toList.length=5) (h0:cs.toList[0]?=some v0) (h1:cs.toList[1]?=some v1) (h2:cs.toList[2]?=some v2) (h3:cs.toList[3]?=some v3) (h4:cs.toList[4]?=some v4):cs=#[v0,v1,v2,v3,v4]:=by
 obtain ⟨l⟩:=cs
 match l,hs with
 | [_,_,_,_,_],_=>simp at *; simp [*]
theorem open_st5 {H:Type} {enc:TypeId×Value->H} {P:Program} {w:World} {r:Reach} {base:Nat} {t tf:TypeId} {fs:Array Field} {v:Value} {d:DataW H} {ps:List MemPlace} (ht:P.underlying t=some (.struct fs))
  (hfs:fs.toList.map (fun f=>(f.offset,f.type))=[(0,tf),(1,tf),(2,tf),(3,tf),(4,tf)]) (hi:P.underlying tf=some (.int .i64)) (hc:P.cellsOf t=5) (hcf:P.cellsOf tf=1)
  (hval:Value.okWide P w r base t v) (h:DataW.Trod enc P w 0 (fun _=>true) true t v d ps):∃ m:Nat->Int,v=.agg #[.int .i64 (m 0),.int .i64 (m 1),.int .i64 (m 2),.int .i64 (m 3),.int .i64 (m 4)]/\True:=by
 obtain ⟨cs,rfl,hsz⟩:=okWide_struct ht hval
 obtain ⟨fuel,h⟩:=h
 obtain ⟨hl,n,hf⟩:=trod_fields ht h
 have hcs:(Value.agg cs).cells.toList=cs.toList:=rfl
 rw [hcs] at hl hf
 have go:∀ o,(o,tf)∈[(0,tf),(1,tf),(2,tf),(3,tf),(4,tf)]->∃ z,cs.toList[o]?=some (.int .i64 z)/\(Lit.int .i64 z).wf=true:=by
  intro o ho
  obtain ⟨f,h1,h2,h3⟩:=at_field hfs ho
  obtain ⟨y0,g0⟩:=hf f h1
  rw [h2,h3] at g0
  exact field_int hi hcf g0
 obtain ⟨z0,e0,-⟩:=go 0 (by simp)
 obtain ⟨z1,e1,-⟩:=go 1 (by simp)
 obtain ⟨z2,e2,-⟩:=go 2 (by simp)
 obtain ⟨z3,e3,-⟩:=go 3 (by simp)
 obtain ⟨z4,e4,-⟩:=go 4 (by simp)
 refine ⟨fun o=>match o with | 0=>z0 | 1=>z1 | 2=>z2 | 3=>z3 | _=>z4,?_,trivial⟩
 congr 1
 exact agg_five (by rw [hl,hc]) e0 e1 e2 e3 e4
theorem vhAw8:zae vAw8:=by
 refine zae.pr (vAw8_eq ..) ?_
 (with_reducible repeat' first | exact V.okI | refine V.brT ?_ | refine V.brF ?_ | refine V.brI ?_ ?_ | refine V.anyI ?_ | refine nN_h rfl ?_ | refine V.needI ?_ ?_ | intro _)
 all_goals first
  | omega
  | decide
  | rfl
  | (rename_i h; exact absurd h (by decide))
  | trace_state
theorem aw8_ok:zab P 8 conYes:=conYes_ok (zb8 zak.nil fun _=>by
 have h:zae (verF P con0 6 10 8 [] .nil [] ⟨[],0,fun _=>True⟩ (psYes.fin 0)):=vhAw8
 exact h)
section
variable {g:Nat->Int} {len n:Nat} {c c' d:Cf} {v:Ev} {x:Int} {m:Mm} {q:Cf×Rm} {l:El}
theorem mc_ly (h:okEv c v):lS c=lS v.d/\lE c=lE v.d/\lB c=lB v.d/\lQ c=lQ v.d/\lT c=lT v.d:=by
 obtain ⟨⟨FD,rd,cd,hcl,e2⟩,_⟩:=h
 rw [e2]
 exact ⟨rfl,rfl,rfl,rfl,rfl⟩
theorem mc_na (h:okEv c v):v.n<=v.n/\v.n<=v.a.c:=⟨Z _,h.2.2.2.2.2.2.1⟩
theorem mc_rc (h:okEv c v):(v.d.nP<=v.d.nP/\v.d.nP<=v.d.rc)/\(v.d.nU<=v.d.nU/\v.d.nU<=v.d.cu):=by
 obtain ⟨⟨FD,rd,cd,hcl,e2⟩,_⟩:=h
 rw [e2]
 exact ⟨⟨Z _,hcl.2.1⟩,Z _,hcl.2.2⟩
theorem mc_gd (h:okEv c v) {i:Nat} (hi:i < v.d.nP):v.d.lenP i<=gd v.d.nP v.d.lenP i/\v.d.lenP i<=gd v.d.nP v.d.FC i:=by
 obtain ⟨⟨FD,rd,cd,hcl,e2⟩,_⟩:=h
 rw [e2] at hi ⊢
 have hi:i < c.nP:=hi
 show c.lenP i<=gd c.nP c.lenP i/\c.lenP i<=gd c.nP FD i
 unfold gd
 rw [if_pos hi,if_pos hi]
 exact ⟨Z _,hcl.1 i hi⟩
theorem mc_pE (hu:U8 len g) (hD:zcc g len c):preE c:=okC_preE (dec_err hu hD)
theorem mc_pD (hu:U8 len g) (h:okEv c v) (hD:zcc g len c):preE v.d:=by
 have:=mc_pE hu hD
 obtain ⟨⟨FD,rd,cd,hcl,e2⟩,_⟩:=h
 rw [e2]
 exact this
theorem mc_n (hu:U8 len g) (hD:zcc g len c) (h:okEv c v):4<=v.n/\v.n<=1000000:=by rw [h.2.1]; exact nc_4 (dec_Y hu hD)
theorem mc_pre (hu:U8 len g) (hD:zcc g len c) (h:okEv c v) (hl:n<=1000000):preE v.d/\v.n<=1000000/\okRk v.x/\n<=1000000:=⟨mc_pD hu h hD,(mc_n hu hD h).2,h.2.2.2.1,hl⟩
theorem mc_ex {v:Ev} {l:El}:∃ x,okCz v l x:=⟨(_,⟨v.n,v.x.n,v.x.kl,l.n⟩),is_cl _,Z _,Z _,fun _ _=>Z _,Z _⟩
theorem mc_k (h:okCz v l q) {i:Nat} (hi:i < v.x.n):v.x.kl i<=gd v.x.n v.x.kl i/\v.x.kl i<=gd v.x.n q.2.k i:=by
 unfold gd
 rw [if_pos hi,if_pos hi]
 exact ⟨Z _,h.2.2.2.1 i hi⟩
theorem mc_g (h:okCz v l q) {i:Nat}:gd v.x.n v.x.kl i<=gd v.x.n q.2.k i/\gd v.x.n v.x.kl i<=gd v.x.n v.x.kl i:=⟨Vc.gd_le h.2.2.2.1 i,Z _⟩
theorem mc_r (h:okCz v l q):v.x.n<=v.x.n/\v.x.n<=q.2.r:=⟨Z _,h.2.2.1⟩
theorem mc_big (hu:U8 len g) (hD:zcc g len c) (h:okEv c v):(v.n:Int)<=O 9223372036854775807:=by have:=(mc_n hu hD h).2; simp only [Int.ofNat_eq_natCast]; omega
theorem mc_dg (hD:zcc g len c) {i:Nat}:gd c.nP c.lenP i<=gd c.nP c.FC i/\gd c.nP c.lenP i<=gd c.nP c.lenP i:=by
 obtain ⟨FC,rc,cu,⟨h1,h2,h3⟩,rfl⟩:=hD
 exact ⟨Vc.gd_le h1 i,Z _⟩
theorem mc_xn (hu:U8 len g) (hD:zcc g len c) (h:okEv c v):0 < v.x.n:=by
 have h1:=h.2.2.1
 have h2:=(dec_Y hu hD).2.2.2.1
 omega
theorem mc_xi (hu:U8 len g) (hD:zcc g len c) (h:okEv c v):O 0<=O 0/\O 0 < (v.x.n:Int):=⟨Int.le_refl _,by have:=mc_xn hu hD h; simp only [Int.ofNat_eq_natCast]; omega⟩
theorem mc_kl {k:Nat} (h:decide ((k:Int) > O 0)=true):O 0<=O 0/\O 0 < (k:Int):=⟨Int.le_refl _,of_decide_eq_true h⟩
theorem mc_gk (hu:U8 len g) (hD:zcc g len c) (h:okEv c v) (hk:decide ((v.x.kl 0:Int) > O 0)=true):0 < gd v.x.n v.x.kl 0:=by
 have h1:(v.x.kl 0:Int) > 0:=of_decide_eq_true hk
 unfold gd
 rw [if_pos (mc_xn hu hD h)]
 omega
theorem mc_in (hu:U8 len g) (hD:zcc g len c) (h:okEv c v) {a:Int} (hx:x=dr a (v.n:Int)):0<=x/\x < (v.n:Int):=by
 rw [hx]
 exact dr_bd (by have:=(mc_n hu hD h).1; omega)
theorem mc_b1 (h:0<=x/\x < (n:Int)) (hb:(!decide (x < (n:Int)))=true):False:=by rw [decide_eq_true h.2] at hb; cases hb
theorem mc_b2 (h:0<=x/\x < (n:Int)) (hb:decide (x >= O 0)=false):False:=of_decide_eq_false hb h.1
theorem mc_b3 (h:0<=x/\x < (n:Int)) (hb:(m.val n x != m.g (0+x.toNat))=true):False:=by
 have e:m.val n x=m.g (0+x.toNat):=by
  rw [Nat.zero_add]
  exact Mm.val_eq h.1 h.2
 rw [e] at hb
 simp at hb
theorem mc_if {i e r:Nat} {a b:Int} (h:i=0/\e < r):(if i=0/\e=0 then a else b)=if 0=0/\e=0 then a else b:=by rw [h.1]
theorem zbe (hV:okEv c v) (h1:zcc g len c) (h2:zcc g len c'):c'.W=v.d.W/\c'.L=v.d.L/\c'.C=v.d.C/\c'.T=v.d.T/\c'.D=v.d.D/\c'.H=v.d.H/\c'.B=v.d.B/\c'.A=v.d.A/\c'.P=v.d.P/\c'.nP=v.d.nP/\c'.nU=v.d.nU/\c'.lenP=v.d.lenP/\c'.uP=v.d.uP/\c'.uL=v.d.uL/\c'.uD=v.d.uD/\c'.iO=v.d.iO/\c'.iA=v.d.iA/\c'.iB=v.d.iB:=by
 obtain ⟨⟨FD,rd,cd,hcl,e2⟩,_⟩:=hV
 rw [e2]
 obtain ⟨FC,rc,cu,-,rfl⟩:=h1
 obtain ⟨FC',rc',cu',-,rfl⟩:=h2
 exact ⟨rfl,rfl,rfl,rfl,rfl,rfl,rfl,rfl,rfl,rfl,rfl,rfl,rfl,rfl,rfl,rfl,rfl,rfl⟩
theorem mc_same2 (hV:okEv c v) (h1:zcc g len c) (h2:zcc g len c'):(v.d.nP<=c'.nP/\v.d.nP<=c'.rc)/\(v.d.nU<=c'.nU/\v.d.nU<=c'.cu)/\∀ i,i < v.d.nP->v.d.lenP i<=gd c'.nP c'.lenP i/\v.d.lenP i<=gd c'.nP c'.FC i:=by
 have h:=zbe hV h1 h2
 have hr:=dec_rc h2
 obtain ⟨-,-,-,-,-,-,-,-,-,e1,e2,e3,-⟩:=h
 rw [<- e1,<-e2,<-e3]
 exact ⟨hr.1,hr.2,fun i hi=>dec_gd h2 hi⟩
end
theorem vhMc {g0 g1:Nat->Int} {l0 c0 l1 c1:Nat} {d t:Int} {m:Nat->Int} (hu:U8 l0 g0):zae (verMc g0 g1 l0 c0 l1 c1 d t m):=by
 refine zae.pr (verMc_eq ..) ?_
 (with_reducible repeat' first | exact V.okI | refine V.brT ?_ | refine V.brF ?_ | refine V.brI ?_ ?_ | refine V.anyI ?_ | refine nN_h rfl ?_ | refine V.needI ?_ ?_ | intro _)
 all_goals first
  | rfl
  | exact True.intro
  | assumption
  | exact Z _
  | exact Nat.zero_le _
  | exact ex_dec hu
  | exact ex_sc
  | exact ⟨Nat.zero_le _,Nat.zero_le _⟩
  | exact ⟨Z _,rfl⟩
  | exact ⟨Z _,by assumption⟩
  | exact (dec_rc ‹_›).1
  | exact (dec_rc ‹_›).2
  | exact dec_gd ‹_› ‹_›
  | exact ⟨Z _,And.left (by assumption:okSc _ _)⟩
  | exact dec_pre hu ‹_› ‹_› (by decide)
  | exact ev_ex (dec_Y hu ‹_›)
  | exact s_len ‹_› (by decide)
  | exact (ev_d ‹_›).1.symm
  | exact (ev_d ‹_›).2.1.symm
  | exact (ev_d ‹_›).2.2.1.symm
  | exact (ev_d ‹_›).2.2.2.1.symm
  | exact (ev_d ‹_›).2.2.2.2.1.symm
  | exact (ev_d ‹_›).2.2.2.2.2.1.symm
  | exact (mc_ly ‹_›).1
  | exact (mc_ly ‹_›).2.1
  | exact (mc_ly ‹_›).2.2.1
  | exact (mc_ly ‹_›).2.2.2.1
  | exact (mc_ly ‹_›).2.2.2.2
  | exact mc_na ‹_›
  | exact (mc_rc ‹_›).1
  | exact (mc_rc ‹_›).2
  | exact mc_gd ‹_› ‹_›
  | exact ev_ra ‹_›
  | exact ev_rb ‹_›
  | exact ev_ka ‹_› ‹_›
  | exact ev_kb ‹_› ‹_›
  | exact mc_if ‹_›
  | exact .inl rfl
  | (have hq:=mc_pre (n:=0+1) hu (by assumption:zcc _ _ _) (by assumption:okEv _ _) (by decide); exact hq)
  | exact mc_ex
  | exact mc_r ‹_›
  | exact mc_k ‹_› ‹_›
  | exact mc_g ‹_›
  | exact mc_dg ‹_›
  | exact (by assumption:okEv _ _).2.2.2.1
  | exact mc_big hu ‹_› ‹_›
  | exact mc_xn hu ‹_› ‹_›
  | exact mc_xi hu ‹_› ‹_›
  | exact mc_kl ‹_›
  | exact mc_gk hu ‹_› ‹_› ‹_›
  | exact mc_in hu ‹_› ‹_› ‹_›
  | exact ⟨Nat.zero_lt_one,by have:=mc_in hu ‹_› ‹_› ‹_›; omega⟩
  | decide
  | (simp; done)
  | exact (zbe ‹_› ‹_› ‹_›).1
  | exact (zbe ‹_› ‹_› ‹_›).2.1
  | exact (zbe ‹_› ‹_› ‹_›).2.2.1
  | exact (zbe ‹_› ‹_› ‹_›).2.2.2.1
  | exact (zbe ‹_› ‹_› ‹_›).2.2.2.2.1
  | exact (zbe ‹_› ‹_› ‹_›).2.2.2.2.2.1
  | exact (zbe ‹_› ‹_› ‹_›).2.2.2.2.2.2.1
  | exact (zbe ‹_› ‹_› ‹_›).2.2.2.2.2.2.2.1
  | exact (zbe ‹_› ‹_› ‹_›).2.2.2.2.2.2.2.2.1
  | exact (zbe ‹_› ‹_› ‹_›).2.2.2.2.2.2.2.2.2.1
  | exact (zbe ‹_› ‹_› ‹_›).2.2.2.2.2.2.2.2.2.2.1
  | exact congrFun (zbe ‹_› ‹_› ‹_›).2.2.2.2.2.2.2.2.2.2.2.1 _
  | exact congrFun (zbe ‹_› ‹_› ‹_›).2.2.2.2.2.2.2.2.2.2.2.2.1 _
  | exact congrFun (zbe ‹_› ‹_› ‹_›).2.2.2.2.2.2.2.2.2.2.2.2.2.1 _
  | exact congrFun (zbe ‹_› ‹_› ‹_›).2.2.2.2.2.2.2.2.2.2.2.2.2.2.1 _
  | exact congrFun (congrFun (zbe ‹_› ‹_› ‹_›).2.2.2.2.2.2.2.2.2.2.2.2.2.2.2.1 _) _
  | exact congrFun (congrFun (zbe ‹_› ‹_› ‹_›).2.2.2.2.2.2.2.2.2.2.2.2.2.2.2.2.1 _) _
  | exact congrFun (congrFun (zbe ‹_› ‹_› ‹_›).2.2.2.2.2.2.2.2.2.2.2.2.2.2.2.2.2 _) _
  | exact (mc_same2 ‹_› ‹_› ‹_›).1
  | exact (mc_same2 ‹_› ‹_› ‹_›).2.1
  | exact (mc_same2 ‹_› ‹_› ‹_›).2.2 _ ‹_›
  | exact mc_pD hu ‹_› ‹_›
  | (exfalso; exact mc_b1 (mc_in hu ‹_› ‹_› ‹_›) ‹_›)
  | (exfalso; exact mc_b2 (mc_in hu ‹_› ‹_› ‹_›) ‹_›)
  | (exfalso; exact mc_b3 (mc_in hu ‹_› ‹_› ‹_›) ‹_›)
  | skip
 all_goals try simp only [Nat.zero_add] at *
 all_goals first
  | exact qc_0
  | exact qc_i ‹_› ‹_›
  | exact ⟨Nat.zero_lt_one,qc_t ‹_› ‹_›⟩
  | (unfold gd; rw [if_pos (qc_t ‹_› ‹_›)]; exact qc_t ‹_› ‹_›)
  | exact qc_s (mc_pE hu ‹_›).1.1 ‹_› ‹_›
  | exact qc_m (mc_pE hu ‹_›).1.1 ‹_› ‹_›
  | exact qc_s ((mc_pE hu ‹_›).1.2 _ (qc_t ‹_› ‹_›)) ‹_› ‹_›
  | exact qc_m ((mc_pE hu ‹_›).1.2 _ (qc_t ‹_› ‹_›)) ‹_› ‹_›
  | trace_state
theorem conMc_ok:zak P conMc:=.add aw8_ok (.add conDec_ok (.add cSc_ok (.add cEvN_ok (.add cCz_ok (.add cDr_ok (.add cSr_ok (.add cQc_ok (conU_ok zak.nil))))))))
theorem walkMc (a0:Option Addr) (l0 c0:Nat) (g0:Nat->Int) (a1:Option Addr) (l1 c1:Nat) (g1:Nat->Int) (d:Int) (t:Int) (m:Nat->Int) (W:World) (h0:IsInts .u8 W a0 l0 c0 g0) (h1:IsInts .u8 W a1 l1 c1 g1) (h4:(Lit.int .i64 d).wf=true) (h5:(Lit.int .i64 t).wf=true):
  Calls P fMc #[.slice a0 l0 c0,.slice a1 l1 c1,.int .i64 d,.int .i64 t,.agg #[.int .i64 (m 0),.int .i64 (m 1),.int .i64 (m 2),.int .i64 (m 3),.int .i64 (m 4)]] W fun e w'=>e=.returned (.bool true)/\Below W.heap.size W w':=by
 refine calls_yesV (vs:=[.slice a0 l0 c0,.slice a1 l1 c1,.int .i64 d,.int .i64 t,.agg #[.int .i64 (m 0),.int .i64 (m 1),.int .i64 (m 2),.int .i64 (m 3),.int .i64 (m 4)]]) conMc_ok (ρ:=fun k i=>if i=0 then (if k=0 then addr0 a0 else if k=1 then addr0 a1 else none) else none) (vhMc (g0:=g0) (g1:=g1) (l0:=l0) (c0:=c0) (l1:=l1) (c1:=c1) (d:=d) (t:=t) (m:=m) (fun e he=>u8i (h0.fits e he))) (views_inv fun k b' hk=>?_) ⟨h0.val (by simp) ⟨Nat.le_of_ble_eq_true rfl,trivial⟩,h1.val (by simp) ⟨Nat.le_of_ble_eq_true rfl,trivial⟩,fun _ _=>rfl,fun _ _=>rfl,fun _ _=>rfl,trivial⟩
 rw [zag] at hk
 split at hk
 ·rename_i e; subst e
  cases hk
  exact ⟨rfl,by decide,h0.sat (by simp)⟩
 rw [zag] at hk
 split at hk
 ·rename_i e; subst e
  cases hk
  exact ⟨rfl,by decide,h1.sat (by simp)⟩
 ·cases hk
end Go.Proofs.YtfkdlkidflgalaaGreat.En
