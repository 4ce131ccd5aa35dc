/- A part of the proof. -/
import Derived.Test.YtabiechfpefjhaaGreatMExec
import Derived.Test.YtabiechfpefjhaaGreatChecked
import Derived.Test.YtabiechfpefjhaaGreatMV
import Derived.Deep.Slices
set_option maxHeartbeats 64000000
set_option linter.unusedVariables false
set_option linter.unusedSimpArgs false
open Go.IntKind (i64 u64)
open Int renaming ofNat -> O, ofNat_eq_natCast -> zz
open Nat renaming le_refl -> Z, zero_add -> z8
open Bool renaming not_eq_true' -> z7, not_eq_false' -> za
open Go.Proofs.YtabiechfpefjhaaGreat.Sx.V renaming need -> U, br -> zj, ok -> zw
namespace Go.Proofs.YtabiechfpefjhaaGreat.Cn
open Go Go.RowKit Sx
noncomputable section
noncomputable abbrev P:Program:=Tryz.prog
abbrev iv(n:Int):SV:=.c (.iv .i64 n)
def dr(a b:Int):Int:=if b<1 then 0 else a % b
def con0:Con:=fun _=>none
def noAnn:FuncId->Ann:=fun _=>.nil
def emp:Hp:=⟨[],0,fun _=>True⟩
end
end Go.Proofs.YtabiechfpefjhaaGreat.Cn
set_option maxRecDepth 100000
namespace Go.Proofs.YtabiechfpefjhaaGreat.Cn
open Go Go.RowKit Sx
noncomputable def con3:Con:=con0
theorem con3_ok:zaj P con3:=zaj.nil
end Go.Proofs.YtabiechfpefjhaaGreat.Cn
namespace Go.Proofs.YtabiechfpefjhaaGreat.Dc
open Go Go.RowKit Sx Cn
noncomputable section
def rd(g:Nat->Int)(len at':Nat)(k:Int):Int:=if at'<len then g at' % k else 0
def U8(n:Nat)(g:Nat->Int):Prop:=∀e,e<n->0<=g e/\g e<=255
def hC(t sz:TypeId)(len cap at':Nat)(g:Nat->Int):HL:=[(0,.own t sz [some (.slc 1 (.k 0) (.k 0) 1 (.s len) (.s cap)),none,some (.iv .i64 at'),none]),(1,ints .u8 len g)]
def pC(sz:Nat):SV:=.c (.ptr 0 (.k 0) (.k 0) 0 sz)
def preN(g:Nat->Int)(len at':Nat)(k:Int):Prop:=U8 len g/\1<=k/\at'<=1000000000
def blk97(len cap at':Nat):Blk:=.own 129 4 [some (.slc 1 (.k 0) (.k 0) 1 (.s len) (.s cap)),none,some (.iv .i64 at'),none]
def post97(g:Nat->Int)(len cap at':Nat)(k:Int):Out (SV×Hp):=.need (preN g len at' k) (.leaf (iv (rd g len at' k),⟨[(0,blk97 len cap (at'+1))],2,fun _=>True⟩))
def con97:List SV->Hp->Out (SV×Hp):=fun args H=>match args with
 | [.c (.ptr kc _ _ _ _),k]=>match find kc H.h with
  | some (.own _ _ cs)=>match (cs[0]?:Option (Option SC)),(cs[2]?:Option (Option SC)) with
   | some (some (.slc kb _ _ _ len cap)),some (some c)=>match asI (.c c),asI k,rowFn H.h kb 0 with
    | some (_,_,.ofNat at'),some (_,_,k),some g=>useT [kc,kb] 2 [pC 4,iv k] [(0,blk97 len.v cap.v at'),(1,ints .u8 len.v g)] (post97 g len.v cap.v at' k) args H
    | _,_,_=>.bad 410
   | _,_=>.bad 411
  | _=>.bad 412
 | _=>.bad 413
def tree97(g:Nat->Int)(len cap at':Nat)(k:Int):Out (SV×Hp):=ze4 P con0 noAnn 3 3 50 [pC 4,iv k] ⟨[(0,blk97 len cap at'),(1,ints .u8 len g)],2,fun _=>True⟩
end
theorem tree97_eq(g:Nat->Int)(len cap at':Nat)(k:Int):tree97 g len cap at' k=
 Out.need (0<1/\0<1)
  (Out.need (0<1/\0<1)
  (Out.need (0<1/\0<1)
  (Out.need (0<1/\0<1)
  (Out.need (0<1/\0<1)
  (Out.need (0<1/\0<1)
  (Out.br (decide ((↑at':Int)<(↑len:Int)))
  (Out.need (0<1/\0<1)
  (Out.need (0<1/\0<1)
  (Out.need (0<1/\0<1)
  (Out.need (0<1/\0<1)
  (Out.need (0<1/\0<1)
  (Out.need (0<1/\0<1)
  (Out.need (O 0<=(↑at':Int)/\(↑at':Int)<(↑len:Int))
  (Out.need (0<1/\0+(↑at':Int).toNat<len)
  (Out.need (0<1/\0+(↑at':Int).toNat<len)
  (Out.need (k≠O 0)
  (Out.leaf (SV.c (SC.iv IntKind.i64 ((i64.wrap (g (0+(↑at':Int).toNat))).tmod k)),{ h:=[(0,Blk.own 129 4 [some (SC.slc 1 (NV.k 0) (NV.k 0) 1 (NV.s len) (NV.s cap)),none,some (SC.iv IntKind.i64 (i64.wrap ((↑at':Int)+O 1))),none]),(1,Blk.view 1 (fun x=>len) [Col.ci IntKind.u8 fun x e=>g e])],nxt:=3221225474,D:=fun x=>True }))))))))))))
  (Out.leaf (SV.c (SC.ki IntKind.i64 (O 0)),{ h:=[(0,Blk.own 129 4 [some (SC.slc 1 (NV.k 0) (NV.k 0) 1 (NV.s len) (NV.s cap)),none,some (SC.iv IntKind.i64 (i64.wrap ((↑at':Int)+O 1))),none]),(1,Blk.view 1 (fun x=>len) [Col.ci IntKind.u8 fun x e=>g e])],nxt:=1342177282,D:=fun x=>True })))))))):=by kernel_rfl
theorem za1{g:Nat->Int}{len at':Nat}{k:Int}(hu:U8 len g)(hk:1<=k):0<=rd g len at' k/\rd g len at' k<k:=by
 unfold rd
 split
 ·exact⟨Int.emod_nonneg _ (by omega),Int.emod_lt_of_pos _ (by omega)⟩
 ·omega
theorem local97(g:Nat->Int)(len cap at':Nat)(k:Int):zah P 50 [pC 4,iv k] [(0,blk97 len cap at'),(1,ints .u8 len g)] 2 (post97 g len cap at' k):=
 zah.monoR (p:=tree97 g len cap at' k) (zbz.local (zfb (P:=P) (con:=con0) (u:=3) zaj.nil 3) 50 [pC 4,iv k] [(0,blk97 len cap at'),(1,ints .u8 len g)] 2) fun K hK=>by
  rw[tree97_eq]
  obtain⟨⟨hu,hk,hat⟩,hK⟩:=hK
  have hK:K (iv (rd g len at' k),⟨[(0,blk97 len cap (at'+1))],2,fun _=>True⟩):=hK
  have e1:i64.wrap ((at':Int)+((1:Nat):Int))=((at'+1:Nat):Int):=w64 (by omega)
  simp only[Out.holds,zz,z8,Int.toNat_natCast]
  have fin:∀(v:SC) (nx:Nat),leSC v (.iv .i64 (rd g len at' k))->∃sv H' L,goR 2 L ⟨[some (.c v)],⟨[(0,.own 129 4 [some (.slc 1 (.k 0) (.k 0) 1 (.s len) (.s cap)),none,some (.iv .i64 (i64.wrap ((at':Int)+((1:Nat):Int)))),none]),(1,.view 1 (fun _=>len) [.ci .u8 fun _ e=>g e])],nx,fun _=>True⟩⟩ ⟨[some sv],H'⟩/\stOK ⟨[some sv],H'⟩=true/\2<=H'.nxt/\K (sv,H'):=by
   intro v nx hv
   refine⟨iv (rd g len at' k),⟨[(0,blk97 len cap (at'+1))],2,fun _=>True⟩,[],⟨rfl,rfl,⟨⟨hv,trivial⟩,⟨rfl,rfl,⟨⟨rfl,rfl,rfl,rfl,rfl,rfl⟩,⟨rfl,e1⟩,trivial⟩⟩,trivial⟩,rfl⟩,rfl,Z _,hK⟩
  iterate 6 (refine⟨by decide,?_⟩)
  refine⟨fun a=>?_,fun a=>?_⟩
  ·have a:=of_decide_eq_true a
   have hlt:at'<len:=by omega
   have hg:=hu at' hlt
   iterate 6 (refine⟨by decide,?_⟩)
   refine⟨⟨by omega,by omega⟩,⟨by decide,hlt⟩,⟨by decide,hlt⟩,by omega,fin _ _ ⟨rfl,?_⟩⟩
   rw[w64 (by omega),Int.tmod_eq_emod_of_nonneg (by omega),rd,if_pos hlt]
  ·have a:=of_decide_eq_false a
   refine fin _ _ ⟨rfl,?_⟩
   rw[rd,if_neg (by omega)];rfl
theorem con97_ok:zab P 50 con97:=contract_of_use fun args H=>by
 unfold con97
 repeat' split
 all_goals first|exact .inl ⟨_,rfl⟩|exact .inr ⟨_,_,_,_,_,rfl,local97 _ _ _ _ _⟩
section
variable (g:Nat->Int) (len:Nat)
def dW:Int:=1+rd g len 0 4
def dL:Int:=1+rd g len 1 4
def dC:Int:=1+rd g len 2 (min 3 (dL g len))
def dT:Int:=1+rd g len 3 12
def dD:Int:=1+rd g len 4 4
def dH:Int:=1+rd g len 5 4
def dB:Int:=1+rd g len 6 (dD g len)
def dA:Int:=rd g len 7 6
def dP:Int:=1+rd g len 8 8
def dN:Int:=1+rd g len 9 4
def iO(p:Nat):Int:=rd g len p 3
def iA(p:Nat):Int:=if iO g len p=0 then 1+rd g len (p+1) 4 else if iO g len p=1 then rd g len (p+1) (dN g len) else rd g len (p+1) 4
def iB(p:Nat):Int:=if iO g len p=1 then rd g len (p+2) (dL g len) else 0
def iE(p:Nat):Nat:=if iO g len p=1 then p+3 else p+2
def pI(p:Nat):Nat->Nat
 | 0=>p+1
 | k+1=>iE g len (pI p k)
def cnt(p:Nat):Nat:=(rd g len p 6).toNat
def pS:Nat->Nat
 | 0=>10
 | i+1=>pI g len (pS i) (cnt g len (pS i))
def nP:Nat:=(dN g len).toNat
def pU:Nat:=pS g len (nP g len)
def nU:Nat:=cnt g len (pU g len)
def pos3(e:Nat):Nat:=pU g len+1+3*e
def cO(i e:Nat):Int:=iO g len (pI g len (pS g len i) e)
def cA(i e:Nat):Int:=iA g len (pI g len (pS g len i) e)
def cB(i e:Nat):Int:=iB g len (pI g len (pS g len i) e)
def uP(e:Nat):Int:=rd g len (pos3 g len e) (dN g len)
def uL(e:Nat):Int:=rd g len (pos3 g len e+1) (dL g len)
def uD(e:Nat):Int:=rd g len (pos3 g len e+2) 16
end
noncomputable section
def con6:Con:=Con.add 50 con97 con3
theorem con6_ok:zaj P con6:=.add con97_ok con3_ok
end
noncomputable section
def pK(k sz:Nat):SV:=.c (.ptr k (.k 0) (.k 0) 0 sz)
def slK(k sz len cap:Nat):SC:=.slc k (.k 0) (.k 0) sz (.s len) (.s cap)
def gd(i:Nat)(F:Nat->Nat)(e:Nat):Nat:=if e<i then F e else 0
def ivc(x:Int):Option SC:=some (.iv .i64 x)
def noC:Nat->List (Option SC)
 | 0=>[]
 | n+1=>none::noC n
section
variable (g:Nat->Int) (len:Nat)
def cfg(c9 c10:SC):Blk:=.own 33 11 [ivc (dW g len),ivc (dL g len),ivc (dC g len),ivc (dT g len),ivc (dD g len),ivc (dH g len),ivc (dB g len),ivc (dA g len),ivc (dP g len),some c9,some c10]
def lenP(e:Nat):Nat:=cnt g len (pS g len e)
def colsI(i:Nat):List Col:=[.ci .i64 fun _ e=>cO g len i e,.ci .i64 fun _ e=>cA g len i e,.ci .i64 fun _ e=>cB g len i e]
def zge:List Col:=[.ci .i64 fun i e=>cO g len i e,.ci .i64 fun i e=>cA g len i e,.ci .i64 fun i e=>cB g len i e]
def colsU:List Col:=[.ci .i64 fun _ e=>uP g len e,.ci .i64 fun _ e=>uL g len e,.ci .i64 fun _ e=>uD g len e]
def famP(i:Nat)(FC:Nat->Nat):Blk:=.fam true 133 (gd i FC) (gd i (lenP g len)) (zge g len)
def rowP(kF i rc:Nat)(FC:Nat->Nat):Blk:=.row 131 rc i [.cs kF 3 (fun _ e=>e) (fun _ e=>lenP g len e) (fun _ e=>FC e)]
def blkD(kb cap at':Nat):Blk:=.own 129 4 [some (.slc kb (.k 0) (.k 0) 1 (.s len) (.s cap)),none,some (.iv .i64 at'),none]
def hD(cap at' i rc:Nat)(FC:Nat->Nat)(c10:SC):HL:=[(0,ints .u8 len g),(1,.own 33 11 (noC 11)),(2,blkD len 0 cap at'),(3,cfg g len (slK 5 1 i rc) c10),(4,famP g len i FC),(5,rowP g len 4 i rc FC)]
def tD:List (Nat×SV):=[(2,pK 1 11),(3,pK 2 4),(4,pK 3 11),(5,iv (dN g len))]
def Jo(cap i:Nat)(FC:Nat->Nat)(rc:Nat):St:=⟨tms 128 ((6,iv i)::tD g len),⟨hD g len cap (pS g len i) i rc FC .nils,6,fun _=>True⟩⟩
def Io(i:Nat)(FC:Nat->Nat)(rc:Nat):Prop:=U8 len g/\(i:Int)<=dN g len/\(∀e,e<i->lenP g len e<=FC e)/\i<=rc
def Ao(cap:Nat):Out (Ex×St):=.any (Nat->Nat) (fun FC=>∀e,e<nP g len->lenP g len e<=FC e) fun FC=>.any Nat (fun rc=>nP g len<=rc) fun rc=>.leaf (.exit 0,⟨tms 128 (tD g len),⟨hD g len cap (pU g len) (nP g len) rc FC .nils,6,fun _=>True⟩⟩)
def Ji(cap i:Nat)(FC:Nat->Nat)(rc k c7:Nat):St:=⟨tms 128 ((8,iv ((lenP g len i:Nat)-(k:Nat):Int))::(7,.c (slK 6 3 k c7))::(6,iv i)::tD g len),⟨(6,.row 133 c7 k (colsI g len i))::hD g len cap (pI g len (pS g len i) k) i rc FC .nils,7,fun _=>True⟩⟩
def Ii(i k c7:Nat):Prop:=U8 len g/\(i:Int)<dN g len/\k<=lenP g len i/\k<=c7
def Ai(cap i:Nat)(FC:Nat->Nat)(rc:Nat):Out (Ex×St):=.any Nat (fun c7=>lenP g len i<=c7) fun c7=>.leaf (.exit 2,⟨tms 128 ((7,.c (slK 6 3 (lenP g len i) c7))::(6,iv i)::tD g len),⟨(6,.row 133 c7 (lenP g len i) (colsI g len i))::hD g len cap (pS g len (i+1)) i rc FC .nils,7,fun _=>True⟩⟩)
def annI(cap i:Nat)(FC:Nat->Nat)(rc:Nat):Ann:=.ghost (zek 7 133 3 (colsI g len i)) (loopA (fun x:Nat×Nat=>Ji g len cap i FC rc x.1 x.2) (fun x=>Ii g len i x.1 x.2) 6 (0,0) [tkey 7] (Ai g len cap i FC rc))
def roundI(cap i:Nat)(FC:Nat->Nat)(rc k c7:Nat):Out (Ex×St):=roundC P con6 (loopIn2 P 26 0 0) 3 3 6 (patOf (Ji g len cap i FC rc k c7) 128 [2,3,4,5,6,7]) (Ji g len cap i FC rc k c7)
def roundO(cap i:Nat)(FC:Nat->Nat)(rc:Nat):Out (Ex×St):=roundC P con6 (zee P 26 0) 3 3 4 (patOf (Jo g len cap i FC rc) 128 [2,3,4,5]) (Jo g len cap i FC rc) [(13,joinG (ckey (tkey 4) 9) 0)] [annI g len cap i FC rc]
def annO(cap:Nat):Ann:=.ghost (newFamG 133 (zge g len)) (.ghost (zeb 3 9 131 1 [.cs 4 3 (fun _ e=>e) (fun _ e=>lenP g len e) (fun _ e=>0)]) (loopA (fun x:Nat×(Nat->Nat)×Nat=>Jo g len cap x.1 x.2.1 x.2.2) (fun x=>Io g len x.1 x.2.1 x.2.2) 4 (0,fun _=>0,0) [fun _=>4,ckey (tkey 4) 9] (Ao g len cap)))
def Js(cap rc:Nat)(FC:Nat->Nat)(k c10:Nat):St:=⟨tms 128 ((10,iv ((nU g len:Nat)-(k:Nat):Int))::tD g len),⟨(6,.row 135 c10 k (colsU g len))::hD g len cap (pos3 g len k) (nP g len) rc FC (slK 6 3 k c10),7,fun _=>True⟩⟩
def Is(rc:Nat)(FC:Nat->Nat)(k c10:Nat):Prop:=U8 len g/\k<=nU g len/\k<=c10/\(∀e,e<nP g len->lenP g len e<=FC e)/\nP g len<=rc
def As(cap rc:Nat)(FC:Nat->Nat):Out (Ex×St):=.any Nat (fun c10=>nU g len<=c10) fun c10=>.leaf (.exit 5,⟨tms 128 (tD g len),⟨(6,.row 135 c10 (nU g len) (colsU g len))::hD g len cap (pos3 g len (nU g len)) (nP g len) rc FC (slK 6 3 (nU g len) c10),7,fun _=>True⟩⟩)
def roundS(cap rc:Nat)(FC:Nat->Nat)(k c10:Nat):Out (Ex×St):=roundC P con6 (zee P 26 1) 3 3 6 (patOf (Js g len cap rc FC k c10) 128 [2,3,4,5]) (Js g len cap rc FC k c10)
def annS1(cap rc:Nat)(FC:Nat->Nat):Ann:=loopA (fun x:Nat×Nat=>Js g len cap rc FC x.1 x.2) (fun x=>Is g len rc FC x.1 x.2) 6 (0,0) [ckey (tkey 4) 10] (As g len cap rc FC)
def pickS(s:St):Option (Nat×(Nat->Nat)):=match find 5 s.H.h with
 | some (.row _ rc _ [.cs _ _ _ _ c])=>some (rc,fun e=>c 0 e)
 | _=>none
def annS(cap:Nat):Ann:=.ghost (zeb 3 10 135 3 (colsU g len)) (pickA pickS fun y=>annS1 g len cap y.1 y.2)
def main56(cap:Nat):Out (SV×Hp):=execA P con6 26 [annO g len cap,annS g len cap] 3 [] 3 26 [.c (slK 0 1 len cap)] ⟨[(0,ints .u8 len g)],1,fun _=>True⟩
end
end
theorem roundI_eq(g:Nat->Int)(len cap i:Nat)(FC:Nat->Nat)(rc k c7:Nat):roundI g len cap i FC rc k c7=
 Out.br (decide ((↑(lenP g len i):Int)-(↑k:Int)>O 0))
  (Out.need (((2=2/\0=0/\0=0/\0=0/\4=4)/\(IntKind.i64=IntKind.i64/\O 3=O 3)/\True)/\(129=129/\4=4/\(0=0/\0=0/\0=0/\1=1/\len=len/\cap=cap)/\(IntKind.i64=IntKind.i64/\(↑(pI g len (pS g len i) k):Int)=(↑(pI g len (pS g len i) k):Int))/\True)/\(1<=1/\(∀(i:Nat),i<1->len<=len)/\(IntKind.u8=IntKind.u8/\∀(i e:Nat),i<1/\e<len->g e=g e)/\True)/\True)
  (Out.need (preN (fun e=>g e) len (pI g len (pS g len i) k) (O 3))
  (Out.br (rd (fun e=>g e) len (pI g len (pS g len i) k) (O 3) == O 0)
  (Out.need (((2=2/\0=0/\0=0/\0=0/\4=4)/\(IntKind.i64=IntKind.i64/\O 4=O 4)/\True)/\(129=129/\4=4/\(0=0/\0=0/\0=0/\1=1/\len=len/\cap=cap)/\(IntKind.i64=IntKind.i64/\(↑(pI g len (pS g len i) k+1):Int)=(↑(pI g len (pS g len i) k+1):Int))/\True)/\(1<=1/\(∀(i:Nat),i<1->len<=len)/\(IntKind.u8=IntKind.u8/\∀(i e:Nat),i<1/\e<len->g e=g e)/\True)/\True)
  (Out.need (preN (fun e=>g e) len (pI g len (pS g len i) k+1) (O 4))
  (Out.need (0<1)
  (Out.need (0<1)
  (Out.need (0<1)
  (Out.need (k<=k/\c7=c7)
  (Out.need (k+1<=9223372036854775807/\(k+1)*24<=140737488355328)
  (Out.ge (k+1) fun x=>Out.leaf (Ex.normal,{ tmps:=tms 128 [(2,(SV.c (SC.ptr 1 (NV.k 0) (NV.k 0) 0 11))),(3,(SV.c (SC.ptr 2 (NV.k 0) (NV.k 0) 0 4))),(4,(SV.c (SC.ptr 3 (NV.k 0) (NV.k 0) 0 11))),(5,(SV.c (SC.iv IntKind.i64 (dN g len)))),(6,(SV.c (SC.iv IntKind.i64 (↑i:Int)))),(7,(SV.c (SC.slc 9 (NV.k 0) (NV.k 0) 3 (NV.s (k+1)) (NV.s x)))),(8,(SV.c (SC.iv IntKind.i64 (i64.wrap ((↑(lenP g len i):Int)-(↑k:Int)-O 1)))))],H:={ h:=[(9,Blk.row 133 x (k+1) [Col.ci IntKind.i64 fun i' j=>if i'=0/\j=k then rd (fun e=>g e) len (pI g len (pS g len i) k) (O 3) else cO g len i j,Col.ci IntKind.i64 fun i' j=>if i'=0/\j=k then i64.wrap (O 1+rd (fun e=>g e) len (pI g len (pS g len i) k+1) (O 4)) else cA g len i j,Col.ci IntKind.i64 fun i' j=>if i'=0/\j=k then O 0 else cB g len i j]),(2,Blk.own 129 4 [some (SC.slc 0 (NV.k 0) (NV.k 0) 1 (NV.s len) (NV.s cap)),none,some (SC.iv IntKind.i64 (↑(pI g len (pS g len i) k+1+1):Int)),none]),(0,Blk.view 1 (fun x=>len) [Col.ci IntKind.u8 fun x e=>g e]),(1,Blk.own 33 11 [none,none,none,none,none,none,none,none,none,none,none]),(3,Blk.own 33 11 [some (SC.iv IntKind.i64 (dW g len)),some (SC.iv IntKind.i64 (dL g len)),some (SC.iv IntKind.i64 (dC g len)),some (SC.iv IntKind.i64 (dT g len)),some (SC.iv IntKind.i64 (dD g len)),some (SC.iv IntKind.i64 (dH g len)),some (SC.iv IntKind.i64 (dB g len)),some (SC.iv IntKind.i64 (dA g len)),some (SC.iv IntKind.i64 (dP g len)),some (SC.slc 5 (NV.k 0) (NV.k 0) 1 (NV.s i) (NV.s rc)),some SC.nils]),(4,Blk.fam true 133 (gd i FC) (gd i (lenP g len)) [Col.ci IntKind.i64 fun i e=>cO g len i e,Col.ci IntKind.i64 fun i e=>cA g len i e,Col.ci IntKind.i64 fun i e=>cB g len i e]),(5,Blk.row 131 rc i [Col.cs 4 3 (fun x e=>e) (fun x e=>lenP g len e) fun x e=>FC e])],nxt:=10,D:=fun x=>True } })))))))))
  (Out.br (rd (fun e=>g e) len (pI g len (pS g len i) k) (O 3) == O 1)
  (Out.need (((2=2/\0=0/\0=0/\0=0/\4=4)/\(IntKind.i64=IntKind.i64/\dN g len=dN g len)/\True)/\(129=129/\4=4/\(0=0/\0=0/\0=0/\1=1/\len=len/\cap=cap)/\(IntKind.i64=IntKind.i64/\(↑(pI g len (pS g len i) k+1):Int)=(↑(pI g len (pS g len i) k+1):Int))/\True)/\(1<=1/\(∀(i:Nat),i<1->len<=len)/\(IntKind.u8=IntKind.u8/\∀(i e:Nat),i<1/\e<len->g e=g e)/\True)/\True)
  (Out.need (preN (fun e=>g e) len (pI g len (pS g len i) k+1) (dN g len))
  (Out.need (((2=2/\0=0/\0=0/\0=0/\4=4)/\(IntKind.i64=IntKind.i64/\dL g len=dL g len)/\True)/\(129=129/\4=4/\(0=0/\0=0/\0=0/\1=1/\len=len/\cap=cap)/\(IntKind.i64=IntKind.i64/\(↑(pI g len (pS g len i) k+1+1):Int)=(↑(pI g len (pS g len i) k+1+1):Int))/\True)/\(1<=1/\(∀(i:Nat),i<1->len<=len)/\(IntKind.u8=IntKind.u8/\∀(i e:Nat),i<1/\e<len->g e=g e)/\True)/\True)
  (Out.need (preN (fun e=>g e) len (pI g len (pS g len i) k+1+1) (dL g len))
  (Out.need (0<1)
  (Out.need (0<1)
  (Out.need (0<1)
  (Out.need (k<=k/\c7=c7)
  (Out.need (k+1<=9223372036854775807/\(k+1)*24<=140737488355328)
  (Out.ge (k+1) fun x=>Out.leaf (Ex.normal,{ tmps:=tms 128 [(2,(SV.c (SC.ptr 1 (NV.k 0) (NV.k 0) 0 11))),(3,(SV.c (SC.ptr 2 (NV.k 0) (NV.k 0) 0 4))),(4,(SV.c (SC.ptr 3 (NV.k 0) (NV.k 0) 0 11))),(5,(SV.c (SC.iv IntKind.i64 (dN g len)))),(6,(SV.c (SC.iv IntKind.i64 (↑i:Int)))),(7,(SV.c (SC.slc 9 (NV.k 0) (NV.k 0) 3 (NV.s (k+1)) (NV.s x)))),(8,(SV.c (SC.iv IntKind.i64 (i64.wrap ((↑(lenP g len i):Int)-(↑k:Int)-O 1)))))],H:={ h:=[(9,Blk.row 133 x (k+1) [Col.ci IntKind.i64 fun i' j=>if i'=0/\j=k then rd (fun e=>g e) len (pI g len (pS g len i) k) (O 3) else cO g len i j,Col.ci IntKind.i64 fun i' j=>if i'=0/\j=k then rd (fun e=>g e) len (pI g len (pS g len i) k+1) (dN g len) else cA g len i j,Col.ci IntKind.i64 fun i' j=>if i'=0/\j=k then rd (fun e=>g e) len (pI g len (pS g len i) k+1+1) (dL g len) else cB g len i j]),(2,Blk.own 129 4 [some (SC.slc 0 (NV.k 0) (NV.k 0) 1 (NV.s len) (NV.s cap)),none,some (SC.iv IntKind.i64 (↑(pI g len (pS g len i) k+1+1+1):Int)),none]),(0,Blk.view 1 (fun x=>len) [Col.ci IntKind.u8 fun x e=>g e]),(1,Blk.own 33 11 [none,none,none,none,none,none,none,none,none,none,none]),(3,Blk.own 33 11 [some (SC.iv IntKind.i64 (dW g len)),some (SC.iv IntKind.i64 (dL g len)),some (SC.iv IntKind.i64 (dC g len)),some (SC.iv IntKind.i64 (dT g len)),some (SC.iv IntKind.i64 (dD g len)),some (SC.iv IntKind.i64 (dH g len)),some (SC.iv IntKind.i64 (dB g len)),some (SC.iv IntKind.i64 (dA g len)),some (SC.iv IntKind.i64 (dP g len)),some (SC.slc 5 (NV.k 0) (NV.k 0) 1 (NV.s i) (NV.s rc)),some SC.nils]),(4,Blk.fam true 133 (gd i FC) (gd i (lenP g len)) [Col.ci IntKind.i64 fun i e=>cO g len i e,Col.ci IntKind.i64 fun i e=>cA g len i e,Col.ci IntKind.i64 fun i e=>cB g len i e]),(5,Blk.row 131 rc i [Col.cs 4 3 (fun x e=>e) (fun x e=>lenP g len e) fun x e=>FC e])],nxt:=10,D:=fun x=>True } })))))))))))
  (Out.need (((2=2/\0=0/\0=0/\0=0/\4=4)/\(IntKind.i64=IntKind.i64/\O 4=O 4)/\True)/\(129=129/\4=4/\(0=0/\0=0/\0=0/\1=1/\len=len/\cap=cap)/\(IntKind.i64=IntKind.i64/\(↑(pI g len (pS g len i) k+1):Int)=(↑(pI g len (pS g len i) k+1):Int))/\True)/\(1<=1/\(∀(i:Nat),i<1->len<=len)/\(IntKind.u8=IntKind.u8/\∀(i e:Nat),i<1/\e<len->g e=g e)/\True)/\True)
  (Out.need (preN (fun e=>g e) len (pI g len (pS g len i) k+1) (O 4))
  (Out.need (0<1)
  (Out.need (0<1)
  (Out.need (0<1)
  (Out.need (k<=k/\c7=c7)
  (Out.need (k+1<=9223372036854775807/\(k+1)*24<=140737488355328)
  (Out.ge (k+1) fun x=>Out.leaf (Ex.normal,{ tmps:=tms 128 [(2,(SV.c (SC.ptr 1 (NV.k 0) (NV.k 0) 0 11))),(3,(SV.c (SC.ptr 2 (NV.k 0) (NV.k 0) 0 4))),(4,(SV.c (SC.ptr 3 (NV.k 0) (NV.k 0) 0 11))),(5,(SV.c (SC.iv IntKind.i64 (dN g len)))),(6,(SV.c (SC.iv IntKind.i64 (↑i:Int)))),(7,(SV.c (SC.slc 9 (NV.k 0) (NV.k 0) 3 (NV.s (k+1)) (NV.s x)))),(8,(SV.c (SC.iv IntKind.i64 (i64.wrap ((↑(lenP g len i):Int)-(↑k:Int)-O 1)))))],H:={ h:=[(9,Blk.row 133 x (k+1) [Col.ci IntKind.i64 fun i' j=>if i'=0/\j=k then rd (fun e=>g e) len (pI g len (pS g len i) k) (O 3) else cO g len i j,Col.ci IntKind.i64 fun i' j=>if i'=0/\j=k then rd (fun e=>g e) len (pI g len (pS g len i) k+1) (O 4) else cA g len i j,Col.ci IntKind.i64 fun i' j=>if i'=0/\j=k then O 0 else cB g len i j]),(2,Blk.own 129 4 [some (SC.slc 0 (NV.k 0) (NV.k 0) 1 (NV.s len) (NV.s cap)),none,some (SC.iv IntKind.i64 (↑(pI g len (pS g len i) k+1+1):Int)),none]),(0,Blk.view 1 (fun x=>len) [Col.ci IntKind.u8 fun x e=>g e]),(1,Blk.own 33 11 [none,none,none,none,none,none,none,none,none,none,none]),(3,Blk.own 33 11 [some (SC.iv IntKind.i64 (dW g len)),some (SC.iv IntKind.i64 (dL g len)),some (SC.iv IntKind.i64 (dC g len)),some (SC.iv IntKind.i64 (dT g len)),some (SC.iv IntKind.i64 (dD g len)),some (SC.iv IntKind.i64 (dH g len)),some (SC.iv IntKind.i64 (dB g len)),some (SC.iv IntKind.i64 (dA g len)),some (SC.iv IntKind.i64 (dP g len)),some (SC.slc 5 (NV.k 0) (NV.k 0) 1 (NV.s i) (NV.s rc)),some SC.nils]),(4,Blk.fam true 133 (gd i FC) (gd i (lenP g len)) [Col.ci IntKind.i64 fun i e=>cO g len i e,Col.ci IntKind.i64 fun i e=>cA g len i e,Col.ci IntKind.i64 fun i e=>cB g len i e]),(5,Blk.row 131 rc i [Col.cs 4 3 (fun x e=>e) (fun x e=>lenP g len e) fun x e=>FC e])],nxt:=10,D:=fun x=>True } })))))))))))))
  (Out.leaf (Ex.exit 2,{ tmps:=tms 128 [(2,(SV.c (SC.ptr 1 (NV.k 0) (NV.k 0) 0 11))),(3,(SV.c (SC.ptr 2 (NV.k 0) (NV.k 0) 0 4))),(4,(SV.c (SC.ptr 3 (NV.k 0) (NV.k 0) 0 11))),(5,(SV.c (SC.iv IntKind.i64 (dN g len)))),(6,(SV.c (SC.iv IntKind.i64 (↑i:Int)))),(7,(SV.c (SC.slc 6 (NV.k 0) (NV.k 0) 3 (NV.s k) (NV.s c7))))],H:={ h:=[(6,Blk.row 133 c7 k [Col.ci IntKind.i64 fun x e=>cO g len i e,Col.ci IntKind.i64 fun x e=>cA g len i e,Col.ci IntKind.i64 fun x e=>cB g len i e]),(0,Blk.view 1 (fun x=>len) [Col.ci IntKind.u8 fun x e=>g e]),(1,Blk.own 33 11 [none,none,none,none,none,none,none,none,none,none,none]),(2,Blk.own 129 4 [some (SC.slc 0 (NV.k 0) (NV.k 0) 1 (NV.s len) (NV.s cap)),none,some (SC.iv IntKind.i64 (↑(pI g len (pS g len i) k):Int)),none]),(3,Blk.own 33 11 [some (SC.iv IntKind.i64 (dW g len)),some (SC.iv IntKind.i64 (dL g len)),some (SC.iv IntKind.i64 (dC g len)),some (SC.iv IntKind.i64 (dT g len)),some (SC.iv IntKind.i64 (dD g len)),some (SC.iv IntKind.i64 (dH g len)),some (SC.iv IntKind.i64 (dB g len)),some (SC.iv IntKind.i64 (dA g len)),some (SC.iv IntKind.i64 (dP g len)),some (SC.slc 5 (NV.k 0) (NV.k 0) 1 (NV.s i) (NV.s rc)),some SC.nils]),(4,Blk.fam true 133 (gd i FC) (gd i (lenP g len)) [Col.ci IntKind.i64 fun i e=>cO g len i e,Col.ci IntKind.i64 fun i e=>cA g len i e,Col.ci IntKind.i64 fun i e=>cB g len i e]),(5,Blk.row 131 rc i [Col.cs 4 3 (fun x e=>e) (fun x e=>lenP g len e) fun x e=>FC e])],nxt:=7,D:=fun x=>True } })):=by kernel_rfl
theorem roundO_eq(g:Nat->Int)(len cap i:Nat)(FC:Nat->Nat)(rc:Nat):roundO g len cap i FC rc=
 Out.br (decide ((↑i:Int)<dN g len))
  (Out.need (((2=2/\0=0/\0=0/\0=0/\4=4)/\(IntKind.i64=IntKind.i64/\O 6=O 6)/\True)/\(129=129/\4=4/\(0=0/\0=0/\0=0/\1=1/\len=len/\cap=cap)/\(IntKind.i64=IntKind.i64/\(↑(pS g len i):Int)=(↑(pS g len i):Int))/\True)/\(1<=1/\(∀(i:Nat),i<1->len<=len)/\(IntKind.u8=IntKind.u8/\∀(i e:Nat),i<1/\e<len->g e=g e)/\True)/\True)
  (Out.need (preN (fun e=>g e) len (pS g len i) (O 6))
  (Out.need (Ii g len i 0 0/\(∀(k:Nat),True)/\(∀(k:Nat),True)/\((1=1/\0=0/\0=0/\0=0/\11=11)/\(2=2/\0=0/\0=0/\0=0/\4=4)/\(3=3/\0=0/\0=0/\0=0/\11=11)/\(IntKind.i64=IntKind.i64/\dN g len=dN g len)/\(IntKind.i64=IntKind.i64/\(↑i:Int)=(↑i:Int))/\(6=6/\0=0/\0=0/\3=3/\0=0/\0=0)/\(IntKind.i64=IntKind.i64/\rd (fun e=>g e) len (pS g len i) (O 6)=(↑(lenP g len i):Int)-(↑0:Int))/\True)/\(133=133/\0=0/\0<=0/\(IntKind.i64=IntKind.i64/\∀(i_1 e:Nat),i_1=0/\e<0->cO g len i e=cO g len i e)/\(IntKind.i64=IntKind.i64/\∀(i_1 e:Nat),i_1=0/\e<0->cA g len i e=cA g len i e)/\(IntKind.i64=IntKind.i64/\∀(i_1 e:Nat),i_1=0/\e<0->cB g len i e=cB g len i e)/\True)/\(1<=1/\(∀(i:Nat),i<1->len<=len)/\(IntKind.u8=IntKind.u8/\∀(i e:Nat),i<1/\e<len->g e=g e)/\True)/\(33=33/\11=11/\True)/\(129=129/\4=4/\(0=0/\0=0/\0=0/\1=1/\len=len/\cap=cap)/\(IntKind.i64=IntKind.i64/\(↑(pS g len i+1):Int)=(↑(pI g len (pS g len i) 0):Int))/\True)/\(33=33/\11=11/\(IntKind.i64=IntKind.i64/\dW g len=dW g len)/\(IntKind.i64=IntKind.i64/\dL g len=dL g len)/\(IntKind.i64=IntKind.i64/\dC g len=dC g len)/\(IntKind.i64=IntKind.i64/\dT g len=dT g len)/\(IntKind.i64=IntKind.i64/\dD g len=dD g len)/\(IntKind.i64=IntKind.i64/\dH g len=dH g len)/\(IntKind.i64=IntKind.i64/\dB g len=dB g len)/\(IntKind.i64=IntKind.i64/\dA g len=dA g len)/\(IntKind.i64=IntKind.i64/\dP g len=dP g len)/\(5=5/\0=0/\0=0/\1=1/\i=i/\rc=rc)/\True/\True)/\((true=false->true=false)/\133=133/\(∀(i_1:Nat),gd i FC i_1=gd i FC i_1\/gd i FC i_1=0)/\(∀(i_1:Nat),gd i (lenP g len) i_1<=gd i FC i_1/\gd i (lenP g len) i_1<=gd i (lenP g len) i_1)/\(IntKind.i64=IntKind.i64/\∀(i_1 e:Nat),e<gd i (lenP g len) i_1->cO g len i_1 e=cO g len i_1 e)/\(IntKind.i64=IntKind.i64/\∀(i_1 e:Nat),e<gd i (lenP g len) i_1->cA g len i_1 e=cA g len i_1 e)/\(IntKind.i64=IntKind.i64/\∀(i_1 e:Nat),e<gd i (lenP g len) i_1->cB g len i_1 e=cB g len i_1 e)/\True)/\(131=131/\rc=rc/\i<=i/\(4=4/\3=3/\(∀(i_1 e:Nat),i_1=0/\e<i->e=e)/\(∀(i_1 e:Nat),i_1=0/\e<i->lenP g len e=lenP g len e)/\∀(i_1 e:Nat),i_1=0/\e<i->FC e=FC e)/\True)/\True)
  (Out.any Nat (fun c7=>lenP g len i<=c7) fun x=>Out.need (0<1)
  (Out.need (i<=i/\rc=rc)
  (Out.need (i+1<=9223372036854775807/\(i+1)*24<=140737488355328)
  (Out.ge (i+1) fun x_1=>Out.need (True/\∀(i_1 e:Nat),i_1=0/\e<i+1->¬(i_1=0/\e=i)->e≠i)
  (Out.leaf (Ex.normal,{ tmps:=tms 128 [(2,(SV.c (SC.ptr 1 (NV.k 0) (NV.k 0) 0 11))),(3,(SV.c (SC.ptr 2 (NV.k 0) (NV.k 0) 0 4))),(4,(SV.c (SC.ptr 3 (NV.k 0) (NV.k 0) 0 11))),(5,(SV.c (SC.iv IntKind.i64 (dN g len)))),(6,(SV.c (SC.iv IntKind.i64 (i64.wrap ((↑i:Int)+O 1)))))],H:={ h:=[(9,Blk.fam true 133 (fun i_1=>if i_1=i then x else gd i FC i_1) (fun i_1=>if i_1=i then lenP g len i else gd i (lenP g len) i_1) [Col.ci IntKind.i64 fun i_1 e=>if i_1=i then cO g len i e else cO g len i_1 e,Col.ci IntKind.i64 fun i_1 e=>if i_1=i then cA g len i e else cA g len i_1 e,Col.ci IntKind.i64 fun i_1 e=>if i_1=i then cB g len i e else cB g len i_1 e]),(8,Blk.row 131 x_1 (i+1) [Col.cs 9 3 (fun x e=>e) (fun i' j=>if i'=0/\j=i then lenP g len i else lenP g len j) fun i' j=>if i'=0/\j=i then x else FC j]),(0,Blk.view 1 (fun x=>len) [Col.ci IntKind.u8 fun x e=>g e]),(1,Blk.own 33 11 [none,none,none,none,none,none,none,none,none,none,none]),(2,Blk.own 129 4 [some (SC.slc 0 (NV.k 0) (NV.k 0) 1 (NV.s len) (NV.s cap)),none,some (SC.iv IntKind.i64 (↑(pS g len (i+1)):Int)),none]),(3,Blk.own 33 11 [some (SC.iv IntKind.i64 (dW g len)),some (SC.iv IntKind.i64 (dL g len)),some (SC.iv IntKind.i64 (dC g len)),some (SC.iv IntKind.i64 (dT g len)),some (SC.iv IntKind.i64 (dD g len)),some (SC.iv IntKind.i64 (dH g len)),some (SC.iv IntKind.i64 (dB g len)),some (SC.iv IntKind.i64 (dA g len)),some (SC.iv IntKind.i64 (dP g len)),some (SC.slc 8 (NV.k 0) (NV.k 0) 1 (NV.s (i+1)) (NV.s x_1)),some SC.nils])],nxt:=10,D:=fun x=>True } })))))))))
  (Out.leaf (Ex.exit 0,{ tmps:=tms 128 [(2,(SV.c (SC.ptr 1 (NV.k 0) (NV.k 0) 0 11))),(3,(SV.c (SC.ptr 2 (NV.k 0) (NV.k 0) 0 4))),(4,(SV.c (SC.ptr 3 (NV.k 0) (NV.k 0) 0 11))),(5,(SV.c (SC.iv IntKind.i64 (dN g len))))],H:={ h:=[(0,Blk.view 1 (fun x=>len) [Col.ci IntKind.u8 fun x e=>g e]),(1,Blk.own 33 11 [none,none,none,none,none,none,none,none,none,none,none]),(2,Blk.own 129 4 [some (SC.slc 0 (NV.k 0) (NV.k 0) 1 (NV.s len) (NV.s cap)),none,some (SC.iv IntKind.i64 (↑(pS g len i):Int)),none]),(3,Blk.own 33 11 [some (SC.iv IntKind.i64 (dW g len)),some (SC.iv IntKind.i64 (dL g len)),some (SC.iv IntKind.i64 (dC g len)),some (SC.iv IntKind.i64 (dT g len)),some (SC.iv IntKind.i64 (dD g len)),some (SC.iv IntKind.i64 (dH g len)),some (SC.iv IntKind.i64 (dB g len)),some (SC.iv IntKind.i64 (dA g len)),some (SC.iv IntKind.i64 (dP g len)),some (SC.slc 5 (NV.k 0) (NV.k 0) 1 (NV.s i) (NV.s rc)),some SC.nils]),(4,Blk.fam true 133 (gd i FC) (gd i (lenP g len)) [Col.ci IntKind.i64 fun i e=>cO g len i e,Col.ci IntKind.i64 fun i e=>cA g len i e,Col.ci IntKind.i64 fun i e=>cB g len i e]),(5,Blk.row 131 rc i [Col.cs 4 3 (fun x e=>e) (fun x e=>lenP g len e) fun x e=>FC e])],nxt:=6,D:=fun x=>True } })):=by kernel_rfl
theorem roundS_eq(g:Nat->Int)(len cap rc:Nat)(FC:Nat->Nat)(k c10:Nat):roundS g len cap rc FC k c10=
 Out.br (decide ((↑(nU g len):Int)-(↑k:Int)>O 0))
  (Out.need (((2=2/\0=0/\0=0/\0=0/\4=4)/\(IntKind.i64=IntKind.i64/\dN g len=dN g len)/\True)/\(129=129/\4=4/\(0=0/\0=0/\0=0/\1=1/\len=len/\cap=cap)/\(IntKind.i64=IntKind.i64/\(↑(pos3 g len k):Int)=(↑(pos3 g len k):Int))/\True)/\(1<=1/\(∀(i:Nat),i<1->len<=len)/\(IntKind.u8=IntKind.u8/\∀(i e:Nat),i<1/\e<len->g e=g e)/\True)/\True)
  (Out.need (preN (fun e=>g e) len (pos3 g len k) (dN g len))
  (Out.need (((2=2/\0=0/\0=0/\0=0/\4=4)/\(IntKind.i64=IntKind.i64/\dL g len=dL g len)/\True)/\(129=129/\4=4/\(0=0/\0=0/\0=0/\1=1/\len=len/\cap=cap)/\(IntKind.i64=IntKind.i64/\(↑(pos3 g len k+1):Int)=(↑(pos3 g len k+1):Int))/\True)/\(1<=1/\(∀(i:Nat),i<1->len<=len)/\(IntKind.u8=IntKind.u8/\∀(i e:Nat),i<1/\e<len->g e=g e)/\True)/\True)
  (Out.need (preN (fun e=>g e) len (pos3 g len k+1) (dL g len))
  (Out.need (((2=2/\0=0/\0=0/\0=0/\4=4)/\(IntKind.i64=IntKind.i64/\O 16=O 16)/\True)/\(129=129/\4=4/\(0=0/\0=0/\0=0/\1=1/\len=len/\cap=cap)/\(IntKind.i64=IntKind.i64/\(↑(pos3 g len k+1+1):Int)=(↑(pos3 g len k+1+1):Int))/\True)/\(1<=1/\(∀(i:Nat),i<1->len<=len)/\(IntKind.u8=IntKind.u8/\∀(i e:Nat),i<1/\e<len->g e=g e)/\True)/\True)
  (Out.need (preN (fun e=>g e) len (pos3 g len k+1+1) (O 16))
  (Out.need (0<1)
  (Out.need (0<1)
  (Out.need (0<1)
  (Out.need (k<=k/\c10=c10)
  (Out.need (k+1<=9223372036854775807/\(k+1)*24<=140737488355328)
  (Out.ge (k+1) fun x=>Out.leaf (Ex.normal,{ tmps:=tms 128 [(2,(SV.c (SC.ptr 1 (NV.k 0) (NV.k 0) 0 11))),(3,(SV.c (SC.ptr 2 (NV.k 0) (NV.k 0) 0 4))),(4,(SV.c (SC.ptr 3 (NV.k 0) (NV.k 0) 0 11))),(5,(SV.c (SC.iv IntKind.i64 (dN g len)))),(10,(SV.c (SC.iv IntKind.i64 (i64.wrap ((↑(nU g len):Int)-(↑k:Int)-O 1)))))],H:={ h:=[(9,Blk.row 135 x (k+1) [Col.ci IntKind.i64 fun i' j=>if i'=0/\j=k then rd (fun e=>g e) len (pos3 g len k) (dN g len) else uP g len j,Col.ci IntKind.i64 fun i' j=>if i'=0/\j=k then rd (fun e=>g e) len (pos3 g len k+1) (dL g len) else uL g len j,Col.ci IntKind.i64 fun i' j=>if i'=0/\j=k then rd (fun e=>g e) len (pos3 g len k+1+1) (O 16) else uD g len j]),(2,Blk.own 129 4 [some (SC.slc 0 (NV.k 0) (NV.k 0) 1 (NV.s len) (NV.s cap)),none,some (SC.iv IntKind.i64 (↑(pos3 g len k+1+1+1):Int)),none]),(0,Blk.view 1 (fun x=>len) [Col.ci IntKind.u8 fun x e=>g e]),(1,Blk.own 33 11 [none,none,none,none,none,none,none,none,none,none,none]),(3,Blk.own 33 11 [some (SC.iv IntKind.i64 (dW g len)),some (SC.iv IntKind.i64 (dL g len)),some (SC.iv IntKind.i64 (dC g len)),some (SC.iv IntKind.i64 (dT g len)),some (SC.iv IntKind.i64 (dD g len)),some (SC.iv IntKind.i64 (dH g len)),some (SC.iv IntKind.i64 (dB g len)),some (SC.iv IntKind.i64 (dA g len)),some (SC.iv IntKind.i64 (dP g len)),some (SC.slc 5 (NV.k 0) (NV.k 0) 1 (NV.s (nP g len)) (NV.s rc)),some (SC.slc 9 (NV.k 0) (NV.k 0) 3 (NV.s (k+1)) (NV.s x))]),(4,Blk.fam true 133 (gd (nP g len) FC) (gd (nP g len) (lenP g len)) [Col.ci IntKind.i64 fun i e=>cO g len i e,Col.ci IntKind.i64 fun i e=>cA g len i e,Col.ci IntKind.i64 fun i e=>cB g len i e]),(5,Blk.row 131 rc (nP g len) [Col.cs 4 3 (fun x e=>e) (fun x e=>lenP g len e) fun x e=>FC e])],nxt:=10,D:=fun x=>True } })))))))))))))
  (Out.leaf (Ex.exit 5,{ tmps:=tms 128 [(2,(SV.c (SC.ptr 1 (NV.k 0) (NV.k 0) 0 11))),(3,(SV.c (SC.ptr 2 (NV.k 0) (NV.k 0) 0 4))),(4,(SV.c (SC.ptr 3 (NV.k 0) (NV.k 0) 0 11))),(5,(SV.c (SC.iv IntKind.i64 (dN g len))))],H:={ h:=[(6,Blk.row 135 c10 k [Col.ci IntKind.i64 fun x e=>uP g len e,Col.ci IntKind.i64 fun x e=>uL g len e,Col.ci IntKind.i64 fun x e=>uD g len e]),(0,Blk.view 1 (fun x=>len) [Col.ci IntKind.u8 fun x e=>g e]),(1,Blk.own 33 11 [none,none,none,none,none,none,none,none,none,none,none]),(2,Blk.own 129 4 [some (SC.slc 0 (NV.k 0) (NV.k 0) 1 (NV.s len) (NV.s cap)),none,some (SC.iv IntKind.i64 (↑(pos3 g len k):Int)),none]),(3,Blk.own 33 11 [some (SC.iv IntKind.i64 (dW g len)),some (SC.iv IntKind.i64 (dL g len)),some (SC.iv IntKind.i64 (dC g len)),some (SC.iv IntKind.i64 (dT g len)),some (SC.iv IntKind.i64 (dD g len)),some (SC.iv IntKind.i64 (dH g len)),some (SC.iv IntKind.i64 (dB g len)),some (SC.iv IntKind.i64 (dA g len)),some (SC.iv IntKind.i64 (dP g len)),some (SC.slc 5 (NV.k 0) (NV.k 0) 1 (NV.s (nP g len)) (NV.s rc)),some (SC.slc 6 (NV.k 0) (NV.k 0) 3 (NV.s k) (NV.s c10))]),(4,Blk.fam true 133 (gd (nP g len) FC) (gd (nP g len) (lenP g len)) [Col.ci IntKind.i64 fun i e=>cO g len i e,Col.ci IntKind.i64 fun i e=>cA g len i e,Col.ci IntKind.i64 fun i e=>cB g len i e]),(5,Blk.row 131 rc (nP g len) [Col.cs 4 3 (fun x e=>e) (fun x e=>lenP g len e) fun x e=>FC e])],nxt:=7,D:=fun x=>True } })):=by kernel_rfl
section
variable {g:Nat->Int} {len:Nat}
theorem dW_r(hu:U8 len g):1<=dW g len/\dW g len<=4:=by have:=za1 (at':=0) (k:=4) hu (by decide);unfold dW;omega
theorem dL_r(hu:U8 len g):1<=dL g len/\dL g len<=4:=by have:=za1 (at':=1) (k:=4) hu (by decide);unfold dL;omega
theorem dC_r(hu:U8 len g):1<=dC g len/\dC g len<=3:=by have h:=dL_r hu;have:=za1 (at':=2) (k:=min 3 (dL g len)) hu (by omega);unfold dC;omega
theorem dC_L(hu:U8 len g):dC g len<=dL g len:=by have h:=dL_r hu;have:=za1 (at':=2) (k:=min 3 (dL g len)) hu (by omega);unfold dC;omega
theorem dT_r(hu:U8 len g):1<=dT g len/\dT g len<=12:=by have:=za1 (at':=3) (k:=12) hu (by decide);unfold dT;omega
theorem dD_r(hu:U8 len g):1<=dD g len/\dD g len<=4:=by have:=za1 (at':=4) (k:=4) hu (by decide);unfold dD;omega
theorem dH_r(hu:U8 len g):1<=dH g len/\dH g len<=4:=by have:=za1 (at':=5) (k:=4) hu (by decide);unfold dH;omega
theorem dB_r(hu:U8 len g):1<=dB g len/\dB g len<=dD g len:=by have h:=dD_r hu;have:=za1 (at':=6) (k:=dD g len) hu (by omega);unfold dB;omega
theorem dA_r(hu:U8 len g):0<=dA g len/\dA g len<=5:=by have:=za1 (at':=7) (k:=6) hu (by decide);unfold dA;omega
theorem dP_r(hu:U8 len g):1<=dP g len/\dP g len<=8:=by have:=za1 (at':=8) (k:=8) hu (by decide);unfold dP;omega
theorem dN_r(hu:U8 len g):1<=dN g len/\dN g len<=4:=by have:=za1 (at':=9) (k:=4) hu (by decide);unfold dN;omega
theorem nP_eq(hu:U8 len g):(nP g len:Int)=dN g len:=by have:=dN_r hu;unfold nP;omega
theorem cnt_eq(hu:U8 len g)(p:Nat):(cnt g len p:Int)=rd g len p 6/\cnt g len p<=5:=by have:=za1 (at':=p) (k:=6) hu (by decide);unfold cnt;omega
theorem iE_le(p:Nat):iE g len p<=p+3:=by unfold iE;split<;>omega
theorem pI_le(p k:Nat):pI g len p k<=p+1+3*k:=by
 induction k with
 | zero=>exact Z _
 | succ k ih=>have:=iE_le (g:=g) (len:=len) (pI g len p k);show iE g len (pI g len p k)<=_;omega
theorem pS_le(hu:U8 len g)(i:Nat):pS g len i<=10+16*i:=by
 induction i with
 | zero=>exact Z _
 | succ i ih=>have:=pI_le (g:=g) (len:=len) (pS g len i) (cnt g len (pS g len i));have:=(cnt_eq hu (pS g len i)).2;show pI g len (pS g len i) (cnt g len (pS g len i))<=_;omega
theorem pU_le(hu:U8 len g):pU g len<=74:=by have:=pS_le hu (nP g len);have:=nP_eq hu;have:=dN_r hu;unfold pU;omega
theorem nU_le(hu:U8 len g):nU g len<=5:=(cnt_eq hu _).2
end
theorem gd_le{i:Nat}{A B:Nat->Nat}(h:∀e,e<i->A e<=B e)(e:Nat):gd i A e<=gd i B e:=by
 unfold gd;split
 ·exact h e ‹_›
 ·exact Z _
theorem ze9{i:Nat}{A B:Nat->Nat}(h:∀e,e<i->A e<=B e)(e:Nat):gd i A e<=gd i B e/\gd i A e<=gd i A e:=⟨gd_le h e,Z _⟩
theorem zck{A:Nat->Int}{k:Nat}{v:Int}(h:v=A k)(i' e:Nat)(_:i'=0/\e<k+1):(if i'=0/\e=k then v else A e)=A e:=by
 split
 ·rename_i h1;rw[h1.2,h]
 ·rfl
theorem ne_beq{a b:Int}(h:(a == b)=false):a≠b:=fun e=>by subst e;simp at h
theorem roundI_ok(g:Nat->Int)(len cap i:Nat)(FC:Nat->Nat)(rc k c7:Nat)(hF:∀e,e<i->lenP g len e<=FC e)(hx:Ii g len i k c7)(K:Ex×St->Prop)(hA:(Ai g len cap i FC rc).holds K):
  Holds (roundI g len cap i FC rc k c7) (zcy (fun x:Nat×Nat=>Ji g len cap i FC rc x.1 x.2) (fun x=>Ii g len i x.1 x.2) (fun x=>lenP g len i-x.1) 6 7 K (k,c7)):=by
 constructor
 rw[roundI_eq]
 obtain⟨hu,hi,hk,hc⟩:=hx
 have hN:=dN_r hu
 have hL:=dL_r hu
 have hl:lenP g len i<=5:=(cnt_eq hu _).2
 have hp:pI g len (pS g len i) k<=1000:=by have:=pI_le (g:=g) (len:=len) (pS g len i) k;have:=pS_le hu i;omega
 have hcnt:∀v,v=i64.wrap ((lenP g len i:Int)-(k:Int)-1)->k<lenP g len i->v=(lenP g len i:Int)-((k+1:Nat):Int):=fun v e h=>by rw[e,w64 (by omega)];omega
 simp only[Out.holds,eq_self,true_and,and_true,Z,implies_true,zz,Nat.lt_add_one,gt_iff_lt,Nat.zero_lt_one]
 refine⟨fun h=>?_,fun h=>?_⟩
 ·have h:=of_decide_eq_true h
  have hlt:k<lenP g len i:=by omega
  refine⟨⟨hu,by decide,by omega⟩,fun h0=>?_,fun h0=>?_⟩
  ·have h0:iO g len (pI g len (pS g len i) k)=0:=eq_of_beq h0
   have hr:=za1 (at':=pI g len (pS g len i) k+1) (k:=4) hu (by decide)
   refine⟨⟨hu,by decide,by omega⟩,by omega,fun x hx=>⟨(k+1,x),[9],⟨hu,hi,hlt,hx⟩,(by show lenP g len i-(k+1)<lenP g len i-k;omega),rfl,rfl,⟨?_,?_⟩,rfl⟩⟩
   ·(repeat' first|exact True.intro|with_reducible rfl|apply And.intro|exact Z _|(intros;with_reducible rfl)|(intros;assumption)|decide|(intros;exact Z _)|(intros;apply Or.inl;with_reducible rfl))
    exact hcnt _ rfl hlt
   ·(repeat' first|exact True.intro|with_reducible rfl|apply And.intro|exact Z _|(intros;with_reducible rfl)|(intros;assumption)|decide|(intros;exact Z _)|(intros;apply Or.inl;with_reducible rfl))
    ·exact zck rfl
    ·refine zck ?_
     show i64.wrap (1+rd g len (pI g len (pS g len i) k+1) 4)=iA g len (pI g len (pS g len i) k)
     rw[iA,if_pos h0,w64 (by omega)]
    ·refine zck ?_
     show _=iB g len (pI g len (pS g len i) k)
     rw[iB,if_neg (by omega)];rfl
    ·show((pI g len (pS g len i) k+1+1:Nat):Int)=(iE g len (pI g len (pS g len i) k):Nat)
     rw[iE,if_neg (by omega)]
    ·exact ze9 hF
  ·have h0:iO g len (pI g len (pS g len i) k)≠0:=ne_beq h0
   refine⟨fun h1=>?_,fun h1=>?_⟩
   ·have h1:iO g len (pI g len (pS g len i) k)=1:=eq_of_beq h1
    refine⟨⟨hu,by omega,by omega⟩,⟨hu,by omega,by omega⟩,by omega,fun x hx=>⟨(k+1,x),[9],⟨hu,hi,hlt,hx⟩,(by show lenP g len i-(k+1)<lenP g len i-k;omega),rfl,rfl,⟨?_,?_⟩,rfl⟩⟩
    ·(repeat' first|exact True.intro|with_reducible rfl|apply And.intro|exact Z _|(intros;with_reducible rfl)|(intros;assumption)|decide|(intros;exact Z _)|(intros;apply Or.inl;with_reducible rfl))
     exact hcnt _ rfl hlt
    ·(repeat' first|exact True.intro|with_reducible rfl|apply And.intro|exact Z _|(intros;with_reducible rfl)|(intros;assumption)|decide|(intros;exact Z _)|(intros;apply Or.inl;with_reducible rfl))
     ·exact zck rfl
     ·refine zck ?_
      show _=iA g len (pI g len (pS g len i) k)
      rw[iA,if_neg h0,if_pos h1]
     ·refine zck ?_
      show _=iB g len (pI g len (pS g len i) k)
      rw[iB,if_pos h1]
     ·show((pI g len (pS g len i) k+1+1+1:Nat):Int)=(iE g len (pI g len (pS g len i) k):Nat)
      rw[iE,if_pos h1]
     ·exact ze9 hF
   ·have h1:iO g len (pI g len (pS g len i) k)≠1:=ne_beq h1
    refine⟨⟨hu,by decide,by omega⟩,by omega,fun x hx=>⟨(k+1,x),[9],⟨hu,hi,hlt,hx⟩,(by show lenP g len i-(k+1)<lenP g len i-k;omega),rfl,rfl,⟨?_,?_⟩,rfl⟩⟩
    ·(repeat' first|exact True.intro|with_reducible rfl|apply And.intro|exact Z _|(intros;with_reducible rfl)|(intros;assumption)|decide|(intros;exact Z _)|(intros;apply Or.inl;with_reducible rfl))
     exact hcnt _ rfl hlt
    ·(repeat' first|exact True.intro|with_reducible rfl|apply And.intro|exact Z _|(intros;with_reducible rfl)|(intros;assumption)|decide|(intros;exact Z _)|(intros;apply Or.inl;with_reducible rfl))
     ·exact zck rfl
     ·refine zck ?_
      show _=iA g len (pI g len (pS g len i) k)
      rw[iA,if_neg h0,if_neg h1];rfl
     ·refine zck ?_
      show _=iB g len (pI g len (pS g len i) k)
      rw[iB,if_neg h1];rfl
     ·show((pI g len (pS g len i) k+1+1:Nat):Int)=(iE g len (pI g len (pS g len i) k):Nat)
      rw[iE,if_neg h1]
     ·exact ze9 hF
 ·have h:=of_decide_eq_false h
  have hk:k=lenP g len i:=by omega
  subst hk
  simp only[Ai,Out.holds]at hA
  refine⟨_,[6],?_,?_,?_,hA.2 c7 hc⟩
  ·refine⟨rfl,rfl,⟨?_,?_⟩,rfl⟩
   ·(repeat' first|exact True.intro|with_reducible rfl|apply And.intro|exact Z _|(intros;with_reducible rfl)|(intros;assumption)|decide|(intros;exact Z _)|(intros;apply Or.inl;with_reducible rfl))
   ·(repeat' first|exact True.intro|with_reducible rfl|apply And.intro|exact Z _|(intros;with_reducible rfl)|(intros;assumption)|decide|(intros;exact Z _)|(intros;apply Or.inl;with_reducible rfl))
    ·rfl
    ·exact ze9 hF
  ·rfl
  ·exact Z _
theorem roundS_ok(g:Nat->Int)(len cap rc:Nat)(FC:Nat->Nat)(k c10:Nat)(hx:Is g len rc FC k c10)(K:Ex×St->Prop)(hA:(As g len cap rc FC).holds K):
  Holds (roundS g len cap rc FC k c10) (zcy (fun x:Nat×Nat=>Js g len cap rc FC x.1 x.2) (fun x=>Is g len rc FC x.1 x.2) (fun x=>nU g len-x.1) 6 7 K (k,c10)):=by
 constructor
 rw[roundS_eq]
 obtain⟨hu,hk,hc,hF,hrc⟩:=hx
 have hN:=dN_r hu
 have hL:=dL_r hu
 have hl:=nU_le hu
 have hp:pos3 g len k<=1000:=by have:=pU_le hu;unfold pos3;omega
 have hcnt:∀v,v=i64.wrap ((nU g len:Int)-(k:Int)-1)->k<nU g len->v=(nU g len:Int)-((k+1:Nat):Int):=fun v e h=>by rw[e,w64 (by omega)];omega
 simp only[Out.holds,eq_self,true_and,and_true,Z,implies_true,zz,Nat.lt_add_one,gt_iff_lt,Nat.zero_lt_one]
 refine⟨fun h=>?_,fun h=>?_⟩
 ·have h:=of_decide_eq_true h
  have hlt:k<nU g len:=by omega
  refine⟨⟨hu,by omega,by omega⟩,⟨hu,by omega,by omega⟩,⟨hu,by decide,by omega⟩,by omega,fun x hx=>⟨(k+1,x),[9],⟨hu,hlt,hx,hF,hrc⟩,(by show nU g len-(k+1)<nU g len-k;omega),rfl,rfl,⟨?_,?_⟩,rfl⟩⟩
  ·(repeat' first|exact True.intro|with_reducible rfl|apply And.intro|exact Z _|(intros;with_reducible rfl)|(intros;assumption)|decide|(intros;exact Z _)|(intros;apply Or.inl;with_reducible rfl))
   exact hcnt _ rfl hlt
  ·(repeat' first|exact True.intro|with_reducible rfl|apply And.intro|exact Z _|(intros;with_reducible rfl)|(intros;assumption)|decide|(intros;exact Z _)|(intros;apply Or.inl;with_reducible rfl))
   ·exact zck rfl
   ·exact zck rfl
   ·exact zck rfl
   ·show((pos3 g len k+1+1+1:Nat):Int)=(pos3 g len (k+1):Nat)
    unfold pos3;omega
   ·exact ze9 hF
 ·have h:=of_decide_eq_false h
  have hk:k=nU g len:=by omega
  subst hk
  simp only[As,Out.holds]at hA
  refine⟨_,[6],?_,?_,?_,hA.2 c10 hc⟩
  ·refine⟨rfl,rfl,⟨?_,?_⟩,rfl⟩
   ·(repeat' first|exact True.intro|with_reducible rfl|apply And.intro|exact Z _|(intros;with_reducible rfl)|(intros;assumption)|decide|(intros;exact Z _)|(intros;apply Or.inl;with_reducible rfl))
   ·(repeat' first|exact True.intro|with_reducible rfl|apply And.intro|exact Z _|(intros;with_reducible rfl)|(intros;assumption)|decide|(intros;exact Z _)|(intros;apply Or.inl;with_reducible rfl))
    exact ze9 hF
  ·rfl
  ·exact Z _
theorem annI_ok(g:Nat->Int)(len cap i:Nat)(FC:Nat->Nat)(rc:Nat)(hF:∀e,e<i->lenP g len e<=FC e):zci P (.loop (loopIn2 P 26 0 0)) (annI g len cap i FC rc):=
 zdk (zfj _ _ _ _) (loopC_ok (u:=3) (nf:=3) con6_ok (fun x=>lenP g len i-x.1) 7 (by decide) (fun _=>rfl) (fun _=>rfl) (fun _=>rfl) (gs:=fun _=>[]) (ls:=fun _=>[]) (fun x hx K hA=>roundI_ok g len cap i FC rc x.1 x.2 hF hx K hA) (fun _ _=>trivial) (fun _ _=>fits_nil _))
theorem gd_put{i:Nat}{A B:Nat->Nat}{v:Nat}(h:v=B i)(hAB:∀e,e<i->A e=B e)(e:Nat):(if e=i then v else gd i A e)=gd (i+1) B e:=by
 unfold gd
 split
 ·rename_i h';subst h';rw[if_pos (Nat.lt_succ_self _),h]
 ·split
  ·rename_i h1 h2;rw[if_pos (by omega),hAB e h2]
  ·rw[if_neg (by omega)]
theorem roundO_ok(g:Nat->Int)(len cap i:Nat)(FC:Nat->Nat)(rc:Nat)(hx:Io g len i FC rc)(K:Ex×St->Prop)(hA:(Ao g len cap).holds K):
  Holds (roundO g len cap i FC rc) (zcy (fun x:Nat×(Nat->Nat)×Nat=>Jo g len cap x.1 x.2.1 x.2.2) (fun x=>Io g len x.1 x.2.1 x.2.2) (fun x=>nP g len-x.1) 4 6 K (i,FC,rc)):=by
 constructor
 rw[roundO_eq]
 obtain⟨hu,hi,hF,hrc⟩:=hx
 have hN:=dN_r hu
 have hn:=nP_eq hu
 have hp:pS g len i<=1000:=by have:=pS_le hu i;omega
 have hl:=cnt_eq hu (pS g len i)
 simp only[Out.holds,eq_self,true_and,and_true,Z,implies_true,zz,Nat.lt_add_one,gt_iff_lt,Nat.zero_lt_one]
 refine⟨fun h=>?_,fun h=>?_⟩
 ·have h:=of_decide_eq_true h
  refine⟨⟨hu,by decide,by omega⟩,⟨⟨hu,h,Nat.zero_le _,Nat.zero_le _⟩,?_⟩,⟨_,Z _⟩,fun c7 h7=>⟨by omega,fun x hx=>⟨?_,⟨(i+1,fun e=>if e=i then c7 else FC e,x),[9,8],⟨hu,by omega,?_,hx⟩,(by show nP g len-(i+1)<nP g len-i;omega),rfl,rfl,⟨?_,?_⟩,rfl⟩⟩⟩⟩
  ·(repeat' first|exact True.intro|with_reducible rfl|apply And.intro|exact Z _|(intros;with_reducible rfl)|(intros;assumption)|decide|(intros;exact Z _)|(intros;apply Or.inl;with_reducible rfl))
   ·show rd g len (pS g len i) 6=((cnt g len (pS g len i):Nat):Int)-((0:Nat):Int)
    omega
   ·rfl
   ·intro _;exact .inl trivial
   ·exact gd_le hF
  ·rintro a e ⟨_,_⟩ h';omega
  ·intro e he
   show lenP g len e<=if e=i then c7 else FC e
   split
   ·rename_i h';rw[h'];exact h7
   ·exact hF e (by omega)
  ·(repeat' first|exact True.intro|with_reducible rfl|apply And.intro|exact Z _|(intros;with_reducible rfl)|(intros;assumption)|decide|(intros;exact Z _)|(intros;apply Or.inl;with_reducible rfl))
   show i64.wrap ((i:Int)+1)=((i+1:Nat):Int)
   rw[w64 (by omega)];rfl
  ·(repeat' first|exact True.intro|with_reducible rfl|apply And.intro|exact Z _|(intros;with_reducible rfl)|(intros;assumption)|decide|(intros;exact Z _)|(intros;apply Or.inl;with_reducible rfl))
   ·exact fun e=>.inl (gd_put (B:=fun e=>if e=i then c7 else FC e) (if_pos rfl).symm (fun e he=>(if_neg (by omega)).symm) e)
   ·refine fun e=>⟨gd_le (fun e he=>?_) e,Nat.le_of_eq (gd_put (A:=lenP g len) (B:=lenP g len) rfl (fun _ _=>rfl) e).symm⟩
    show lenP g len e<=if e=i then c7 else FC e
    split
    ·rename_i h';rw[h'];exact h7
    ·exact hF e (by omega)
   ·intro a e _;show(if a=i then _ else _)=_;split
    ·rename_i h';rw[h']
    ·rfl
   ·intro a e _;show(if a=i then _ else _)=_;split
    ·rename_i h';rw[h']
    ·rfl
   ·intro a e _;show(if a=i then _ else _)=_;split
    ·rename_i h';rw[h']
    ·rfl
   ·intro a e _;show(if _/\e=i then _ else _)=_;split
    ·rename_i h';rw[h'.2]
    ·rfl
   ·rintro a e ⟨rfl,_⟩;show(if 0=0/\e=i then c7 else FC e)=if e=i then c7 else FC e
    split
    ·rename_i h';rw[if_pos h'.2]
    ·rename_i h';rw[if_neg (fun he=>h' ⟨rfl,he⟩)]
 ·have h:=of_decide_eq_false h
  have hk:i=nP g len:=by omega
  subst hk
  simp only[Ao,Out.holds]at hA
  refine⟨_,[4,5],?_,?_,?_,(hA.2 FC hF).2 rc hrc⟩
  ·refine⟨rfl,rfl,⟨?_,?_⟩,rfl⟩
   ·(repeat' first|exact True.intro|with_reducible rfl|apply And.intro|exact Z _|(intros;with_reducible rfl)|(intros;assumption)|decide|(intros;exact Z _)|(intros;apply Or.inl;with_reducible rfl))
   ·(repeat' first|exact True.intro|with_reducible rfl|apply And.intro|exact Z _|(intros;with_reducible rfl)|(intros;assumption)|decide|(intros;exact Z _)|(intros;apply Or.inl;with_reducible rfl))
    ·rfl
    ·exact ze9 hF
  ·rfl
  ·exact Z _
theorem main56_eq(g:Nat->Int)(len cap:Nat):main56 g len cap=
 Out.need (((2=2/\0=0/\0=0/\0=0/\4=4)/\(IntKind.i64=IntKind.i64/\O 4=O 4)/\True)/\(129=129/\4=4/\(0=0/\0=0/\0=0/\1=1/\len=len/\cap=cap)/\(IntKind.i64=IntKind.i64/\O 0=(↑0:Int))/\True)/\(1<=1/\(∀(i:Nat),i<1->len<=len)/\(IntKind.u8=IntKind.u8/\∀(i e:Nat),i<1/\e<len->g e=g e)/\True)/\True)
  (Out.need (preN (fun e=>g e) len 0 (O 4))
  (Out.need (((2=2/\0=0/\0=0/\0=0/\4=4)/\(IntKind.i64=IntKind.i64/\O 4=O 4)/\True)/\(129=129/\4=4/\(0=0/\0=0/\0=0/\1=1/\len=len/\cap=cap)/\(IntKind.i64=IntKind.i64/\(↑1:Int)=(↑1:Int))/\True)/\(1<=1/\(∀(i:Nat),i<1->len<=len)/\(IntKind.u8=IntKind.u8/\∀(i e:Nat),i<1/\e<len->g e=g e)/\True)/\True)
  (Out.need (preN (fun e=>g e) len 1 (O 4))
  (Out.need (((2=2/\0=0/\0=0/\0=0/\4=4)/\(IntKind.i64=IntKind.i64/\min (O 3) (i64.wrap (O 1+rd (fun e=>g e) len 1 (O 4)))=min (O 3) (i64.wrap (O 1+rd (fun e=>g e) len 1 (O 4))))/\True)/\(129=129/\4=4/\(0=0/\0=0/\0=0/\1=1/\len=len/\cap=cap)/\(IntKind.i64=IntKind.i64/\(↑2:Int)=(↑2:Int))/\True)/\(1<=1/\(∀(i:Nat),i<1->len<=len)/\(IntKind.u8=IntKind.u8/\∀(i e:Nat),i<1/\e<len->g e=g e)/\True)/\True)
  (Out.need (preN (fun e=>g e) len 2 (min (O 3) (i64.wrap (O 1+rd (fun e=>g e) len 1 (O 4)))))
  (Out.need (((2=2/\0=0/\0=0/\0=0/\4=4)/\(IntKind.i64=IntKind.i64/\O 12=O 12)/\True)/\(129=129/\4=4/\(0=0/\0=0/\0=0/\1=1/\len=len/\cap=cap)/\(IntKind.i64=IntKind.i64/\(↑3:Int)=(↑3:Int))/\True)/\(1<=1/\(∀(i:Nat),i<1->len<=len)/\(IntKind.u8=IntKind.u8/\∀(i e:Nat),i<1/\e<len->g e=g e)/\True)/\True)
  (Out.need (preN (fun e=>g e) len 3 (O 12))
  (Out.need (((2=2/\0=0/\0=0/\0=0/\4=4)/\(IntKind.i64=IntKind.i64/\O 4=O 4)/\True)/\(129=129/\4=4/\(0=0/\0=0/\0=0/\1=1/\len=len/\cap=cap)/\(IntKind.i64=IntKind.i64/\(↑4:Int)=(↑4:Int))/\True)/\(1<=1/\(∀(i:Nat),i<1->len<=len)/\(IntKind.u8=IntKind.u8/\∀(i e:Nat),i<1/\e<len->g e=g e)/\True)/\True)
  (Out.need (preN (fun e=>g e) len 4 (O 4))
  (Out.need (((2=2/\0=0/\0=0/\0=0/\4=4)/\(IntKind.i64=IntKind.i64/\O 4=O 4)/\True)/\(129=129/\4=4/\(0=0/\0=0/\0=0/\1=1/\len=len/\cap=cap)/\(IntKind.i64=IntKind.i64/\(↑5:Int)=(↑5:Int))/\True)/\(1<=1/\(∀(i:Nat),i<1->len<=len)/\(IntKind.u8=IntKind.u8/\∀(i e:Nat),i<1/\e<len->g e=g e)/\True)/\True)
  (Out.need (preN (fun e=>g e) len 5 (O 4))
  (Out.need (((2=2/\0=0/\0=0/\0=0/\4=4)/\(IntKind.i64=IntKind.i64/\i64.wrap (O 1+rd (fun e=>g e) len 4 (O 4))=i64.wrap (O 1+rd (fun e=>g e) len 4 (O 4)))/\True)/\(129=129/\4=4/\(0=0/\0=0/\0=0/\1=1/\len=len/\cap=cap)/\(IntKind.i64=IntKind.i64/\(↑6:Int)=(↑6:Int))/\True)/\(1<=1/\(∀(i:Nat),i<1->len<=len)/\(IntKind.u8=IntKind.u8/\∀(i e:Nat),i<1/\e<len->g e=g e)/\True)/\True)
  (Out.need (preN (fun e=>g e) len 6 (i64.wrap (O 1+rd (fun e=>g e) len 4 (O 4))))
  (Out.need (((2=2/\0=0/\0=0/\0=0/\4=4)/\(IntKind.i64=IntKind.i64/\O 6=O 6)/\True)/\(129=129/\4=4/\(0=0/\0=0/\0=0/\1=1/\len=len/\cap=cap)/\(IntKind.i64=IntKind.i64/\(↑7:Int)=(↑7:Int))/\True)/\(1<=1/\(∀(i:Nat),i<1->len<=len)/\(IntKind.u8=IntKind.u8/\∀(i e:Nat),i<1/\e<len->g e=g e)/\True)/\True)
  (Out.need (preN (fun e=>g e) len 7 (O 6))
  (Out.need (((2=2/\0=0/\0=0/\0=0/\4=4)/\(IntKind.i64=IntKind.i64/\O 8=O 8)/\True)/\(129=129/\4=4/\(0=0/\0=0/\0=0/\1=1/\len=len/\cap=cap)/\(IntKind.i64=IntKind.i64/\(↑8:Int)=(↑8:Int))/\True)/\(1<=1/\(∀(i:Nat),i<1->len<=len)/\(IntKind.u8=IntKind.u8/\∀(i e:Nat),i<1/\e<len->g e=g e)/\True)/\True)
  (Out.need (preN (fun e=>g e) len 8 (O 8))
  (Out.need (((2=2/\0=0/\0=0/\0=0/\4=4)/\(IntKind.i64=IntKind.i64/\O 4=O 4)/\True)/\(129=129/\4=4/\(0=0/\0=0/\0=0/\1=1/\len=len/\cap=cap)/\(IntKind.i64=IntKind.i64/\(↑9:Int)=(↑9:Int))/\True)/\(1<=1/\(∀(i:Nat),i<1->len<=len)/\(IntKind.u8=IntKind.u8/\∀(i e:Nat),i<1/\e<len->g e=g e)/\True)/\True)
  (Out.need (preN (fun e=>g e) len 9 (O 4))
  (Out.need (Io g len 0 (fun x=>0) 0/\(∀(k:Nat),True)/\(∀(k:Nat),True)/\((1=1/\0=0/\0=0/\0=0/\11=11)/\(2=2/\0=0/\0=0/\0=0/\4=4)/\(3=3/\0=0/\0=0/\0=0/\11=11)/\(IntKind.i64=IntKind.i64/\i64.wrap (O 1+rd (fun e=>g e) len 9 (O 4))=dN g len)/\(IntKind.i64=IntKind.i64/\O 0=(↑0:Int))/\True)/\(1<=1/\(∀(i:Nat),i<1->len<=len)/\(IntKind.u8=IntKind.u8/\∀(i e:Nat),i<1/\e<len->g e=g e)/\True)/\(33=33/\11=11/\True)/\(129=129/\4=4/\(0=0/\0=0/\0=0/\1=1/\len=len/\cap=cap)/\(IntKind.i64=IntKind.i64/\(↑10:Int)=(↑(pS g len 0):Int))/\True)/\(33=33/\11=11/\(IntKind.i64=IntKind.i64/\i64.wrap (O 1+rd (fun e=>g e) len 0 (O 4))=dW g len)/\(IntKind.i64=IntKind.i64/\i64.wrap (O 1+rd (fun e=>g e) len 1 (O 4))=dL g len)/\(IntKind.i64=IntKind.i64/\i64.wrap (O 1+rd (fun e=>g e) len 2 (min (O 3) (i64.wrap (O 1+rd (fun e=>g e) len 1 (O 4)))))=dC g len)/\(IntKind.i64=IntKind.i64/\i64.wrap (O 1+rd (fun e=>g e) len 3 (O 12))=dT g len)/\(IntKind.i64=IntKind.i64/\i64.wrap (O 1+rd (fun e=>g e) len 4 (O 4))=dD g len)/\(IntKind.i64=IntKind.i64/\i64.wrap (O 1+rd (fun e=>g e) len 5 (O 4))=dH g len)/\(IntKind.i64=IntKind.i64/\i64.wrap (O 1+rd (fun e=>g e) len 6 (i64.wrap (O 1+rd (fun e=>g e) len 4 (O 4))))=dB g len)/\(IntKind.i64=IntKind.i64/\rd (fun e=>g e) len 7 (O 6)=dA g len)/\(IntKind.i64=IntKind.i64/\i64.wrap (O 1+rd (fun e=>g e) len 8 (O 8))=dP g len)/\(5=5/\0=0/\0=0/\1=1/\0=0/\0=0)/\True/\True)/\((true=false->true=false)/\133=133/\(∀(i:Nat),0=gd 0 (fun x=>0) i\/gd 0 (fun x=>0) i=0)/\(∀(i:Nat),gd 0 (lenP g len) i<=gd 0 (fun x=>0) i/\gd 0 (lenP g len) i<=0)/\(IntKind.i64=IntKind.i64/\∀(i e:Nat),e<gd 0 (lenP g len) i->cO g len i e=cO g len i e)/\(IntKind.i64=IntKind.i64/\∀(i e:Nat),e<gd 0 (lenP g len) i->cA g len i e=cA g len i e)/\(IntKind.i64=IntKind.i64/\∀(i e:Nat),e<gd 0 (lenP g len) i->cB g len i e=cB g len i e)/\True)/\(131=131/\0=0/\0<=0/\(4=4/\3=3/\(∀(i e:Nat),i=0/\e<0->e=e)/\(∀(i e:Nat),i=0/\e<0->lenP g len e=lenP g len e)/\∀(i e:Nat),i=0/\e<0->0=0)/\True)/\True)
  (Out.any (Nat->Nat) (fun FC=>∀(e:Nat),e<nP g len->lenP g len e<=FC e) fun x=>Out.any Nat (fun rc=>nP g len<=rc) fun x_1=>Out.need (((2=2/\0=0/\0=0/\0=0/\4=4)/\(IntKind.i64=IntKind.i64/\O 6=O 6)/\True)/\(129=129/\4=4/\(0=0/\0=0/\0=0/\1=1/\len=len/\cap=cap)/\(IntKind.i64=IntKind.i64/\(↑(pU g len):Int)=(↑(pU g len):Int))/\True)/\(1<=1/\(∀(i:Nat),i<1->len<=len)/\(IntKind.u8=IntKind.u8/\∀(i e:Nat),i<1/\e<len->g e=g e)/\True)/\True)
  (Out.need (preN (fun e=>g e) len (pU g len) (O 6))
  (Out.need (Is g len x_1 (fun e=>x e) 0 0/\(∀(k:Nat),True)/\(∀(k:Nat),True)/\((1=1/\0=0/\0=0/\0=0/\11=11)/\(2=2/\0=0/\0=0/\0=0/\4=4)/\(3=3/\0=0/\0=0/\0=0/\11=11)/\(IntKind.i64=IntKind.i64/\dN g len=dN g len)/\(IntKind.i64=IntKind.i64/\rd (fun e=>g e) len (pU g len) (O 6)=(↑(nU g len):Int)-(↑0:Int))/\True)/\(135=135/\0=0/\0<=0/\(IntKind.i64=IntKind.i64/\∀(i e:Nat),i=0/\e<0->uP g len e=uP g len e)/\(IntKind.i64=IntKind.i64/\∀(i e:Nat),i=0/\e<0->uL g len e=uL g len e)/\(IntKind.i64=IntKind.i64/\∀(i e:Nat),i=0/\e<0->uD g len e=uD g len e)/\True)/\(1<=1/\(∀(i:Nat),i<1->len<=len)/\(IntKind.u8=IntKind.u8/\∀(i e:Nat),i<1/\e<len->g e=g e)/\True)/\(33=33/\11=11/\True)/\(129=129/\4=4/\(0=0/\0=0/\0=0/\1=1/\len=len/\cap=cap)/\(IntKind.i64=IntKind.i64/\(↑(pU g len+1):Int)=(↑(pos3 g len 0):Int))/\True)/\(33=33/\11=11/\(IntKind.i64=IntKind.i64/\dW g len=dW g len)/\(IntKind.i64=IntKind.i64/\dL g len=dL g len)/\(IntKind.i64=IntKind.i64/\dC g len=dC g len)/\(IntKind.i64=IntKind.i64/\dT g len=dT g len)/\(IntKind.i64=IntKind.i64/\dD g len=dD g len)/\(IntKind.i64=IntKind.i64/\dH g len=dH g len)/\(IntKind.i64=IntKind.i64/\dB g len=dB g len)/\(IntKind.i64=IntKind.i64/\dA g len=dA g len)/\(IntKind.i64=IntKind.i64/\dP g len=dP g len)/\(5=5/\0=0/\0=0/\1=1/\nP g len=nP g len/\x_1=x_1)/\(6=6/\0=0/\0=0/\3=3/\0=0/\0=0)/\True)/\((true=false->true=false)/\133=133/\(∀(i:Nat),gd (nP g len) x i=gd (nP g len) (fun e=>x e) i\/gd (nP g len) (fun e=>x e) i=0)/\(∀(i:Nat),gd (nP g len) (lenP g len) i<=gd (nP g len) (fun e=>x e) i/\gd (nP g len) (lenP g len) i<=gd (nP g len) (lenP g len) i)/\(IntKind.i64=IntKind.i64/\∀(i e:Nat),e<gd (nP g len) (lenP g len) i->cO g len i e=cO g len i e)/\(IntKind.i64=IntKind.i64/\∀(i e:Nat),e<gd (nP g len) (lenP g len) i->cA g len i e=cA g len i e)/\(IntKind.i64=IntKind.i64/\∀(i e:Nat),e<gd (nP g len) (lenP g len) i->cB g len i e=cB g len i e)/\True)/\(131=131/\x_1=x_1/\nP g len<=nP g len/\(4=4/\3=3/\(∀(i e:Nat),i=0/\e<nP g len->e=e)/\(∀(i e:Nat),i=0/\e<nP g len->lenP g len e=lenP g len e)/\∀(i e:Nat),i=0/\e<nP g len->x e=x e)/\True)/\True)
  (Out.any Nat (fun c10=>nU g len<=c10) fun x_2=>Out.leaf (SV.a [SC.iv IntKind.i64 (dW g len),SC.iv IntKind.i64 (dL g len),SC.iv IntKind.i64 (dC g len),SC.iv IntKind.i64 (dT g len),SC.iv IntKind.i64 (dD g len),SC.iv IntKind.i64 (dH g len),SC.iv IntKind.i64 (dB g len),SC.iv IntKind.i64 (dA g len),SC.iv IntKind.i64 (dP g len),SC.slc 5 (NV.k 0) (NV.k 0) 1 (NV.s (nP g len)) (NV.s x_1),SC.slc 6 (NV.k 0) (NV.k 0) 3 (NV.s (nU g len)) (NV.s x_2)],{ h:=[(6,Blk.row 135 x_2 (nU g len) [Col.ci IntKind.i64 fun x e=>uP g len e,Col.ci IntKind.i64 fun x e=>uL g len e,Col.ci IntKind.i64 fun x e=>uD g len e]),(0,Blk.view 1 (fun x=>len) [Col.ci IntKind.u8 fun x e=>g e]),(4,Blk.fam true 133 (gd (nP g len) fun e=>x e) (gd (nP g len) (lenP g len)) [Col.ci IntKind.i64 fun i e=>cO g len i e,Col.ci IntKind.i64 fun i e=>cA g len i e,Col.ci IntKind.i64 fun i e=>cB g len i e]),(5,Blk.row 131 x_1 (nP g len) [Col.cs 4 3 (fun x e=>e) (fun x e=>lenP g len e) fun x_3 e=>x e])],nxt:=7,D:=fun x=>True }))))))))))))))))))))))))):=by kernel_rfl
noncomputable section
def cfgV(g:Nat->Int)(len:Nat)(c9 c10:SC):SV:=.a [.iv .i64 (dW g len),.iv .i64 (dL g len),.iv .i64 (dC g len),.iv .i64 (dT g len),.iv .i64 (dD g len),.iv .i64 (dH g len),.iv .i64 (dB g len),.iv .i64 (dA g len),.iv .i64 (dP g len),c9,c10]
def post56(g:Nat->Int)(len cap:Nat):Out (SV×Hp):=.need (U8 len g) (.any (Nat->Nat) (fun FC=>∀e,e<nP g len->lenP g len e<=FC e) fun FC=>.any Nat (fun rc=>nP g len<=rc) fun rc=>.any Nat (fun c=>nU g len<=c) fun c10=>
 .leaf (cfgV g len (slK 2 1 (nP g len) rc) (slK 3 3 (nU g len) c10),⟨[(1,famP g len (nP g len) FC),(2,rowP g len 1 (nP g len) rc FC),(3,.row 135 c10 (nU g len) (colsU g len))],4,fun _=>True⟩))
end
theorem ghosts56(g:Nat->Int)(len cap:Nat):zci P (.loop (zee P 26 0)) (annO g len cap):=
 zdk (newFamG_ok _ _) (zdk (zeo _ _ _ _ _) (loopC_ok (u:=3) (nf:=3) con6_ok (fun x=>nP g len-x.1) 6 (by decide) (fun _=>rfl) (fun _=>rfl) (fun _=>rfl)
  (gs:=fun _=>[(13,joinG (ckey (tkey 4) 9) 0)]) (ls:=fun x=>[annI g len cap x.1 x.2.1 x.2.2]) (fun x hx K hA=>roundO_ok g len cap x.1 x.2.1 x.2.2 hx K hA) (fun _ _=>⟨joinG_ok _ _,trivial⟩) (fun x hx=>fitsIn1 (annI_ok g len cap x.1 x.2.1 x.2.2 hx.2.2.1))))
theorem annS_ok(g:Nat->Int)(len cap:Nat):zci P (.loop (zee P 26 1)) (annS g len cap):=
 zdk (zeo _ _ _ _ _) (pickA_ok fun y=>loopC_ok (u:=3) (nf:=3) con6_ok (fun x=>nU g len-x.1) 7 (by decide) (fun _=>rfl) (fun _=>rfl) (fun _=>rfl)
  (gs:=fun _=>[]) (ls:=fun _=>[]) (fun x hx K hA=>roundS_ok g len cap y.1 y.2 x.1 x.2 hx K hA) (fun _ _=>trivial) (fun _ _=>fits_nil _))
theorem local56(g:Nat->Int)(len cap:Nat):zah P 26 [.c (slK 0 1 len cap)] [(0,ints .u8 len g)] 1 (post56 g len cap):=
 zah.monoR (p:=main56 g len cap) (zbz.local (execA_ok (u:=3) con6_ok (fits2 (ghosts56 g len cap) (annS_ok g len cap)) 3) 26 [.c (slK 0 1 len cap)] [(0,ints .u8 len g)] 1) fun K hK=>by
  rw[main56_eq]
  obtain⟨hu,hK⟩:=hK
  simp only[Out.holds]at hK
  have hN:=dN_r hu
  have hL:=dL_r hu
  have hD:=dD_r hu
  have hn:=nP_eq hu
  have w:∀at' k,1<=k->k<=16->i64.wrap (1+rd g len at' k)=1+rd g len at' k:=fun at' k h1 h2=>w64 (by have:=za1 (at':=at') hu h1;omega)
  have eL:i64.wrap (1+rd g len 1 4)=dL g len:=w _ _ (by decide) (by decide)
  have eD:i64.wrap (1+rd g len 4 4)=dD g len:=w _ _ (by decide) (by decide)
  have eC:i64.wrap (1+rd g len 2 (min 3 (dL g len)))=dC g len:=w _ _ (by omega) (by omega)
  have eB:i64.wrap (1+rd g len 6 (dD g len))=dB g len:=w _ _ (by omega) (by omega)
  have hU:=cnt_eq hu (pU g len)
  have hpU:=pU_le hu
  have k4:((4:Nat):Int)=4:=rfl
  have k6:((6:Nat):Int)=6:=rfl
  have k1:((1:Nat):Int)=1:=rfl
  have k3:((3:Nat):Int)=3:=rfl
  simp only[Out.holds,eq_self,true_and,and_true,Z,implies_true,zz,Nat.lt_add_one,gt_iff_lt,Nat.zero_lt_one,k1,k3,k4,eL,eD,eC,eB]
  (repeat' first|exact True.intro|with_reducible rfl|apply And.intro|exact Z _|(intros;with_reducible rfl)|(intros;assumption)|decide|(intros;exact Z _)|(intros;apply Or.inl;with_reducible rfl))
  all_goals try first|omega|exact hu|exact w _ _ (by decide) (by decide)|(with_reducible exact hK.1)|(intro e he;exact absurd he (Nat.not_lt_zero _))|(intro e;exact .inr rfl)|(intro e;exact⟨Nat.le_of_eq rfl,Nat.le_of_eq rfl⟩)
  ·rfl
  ·rfl
  ·intro FC hF
   have hK:=hK.2 FC hF
   refine⟨hK.1,fun rc hrc=>?_⟩
   have hK:=hK.2 rc hrc
   (repeat' first|exact True.intro|with_reducible rfl|apply And.intro|exact Z _|(intros;with_reducible rfl)|(intros;assumption)|decide|(intros;exact Z _)|(intros;apply Or.inl;with_reducible rfl))
   all_goals try first|omega|exact hu|with_reducible exact hK.1|exact ze9 hF|exact fun e=>.inl trivial|exact gd_le hF
   ·show rd g len (pU g len) 6=((cnt g len (pU g len):Nat):Int)-0
    omega
   ·rfl
   ·intro c10 hc
    have hK:=hK.2 c10 hc
    refine⟨_,_,[4,5,6],⟨rfl,rfl,⟨?_,?_⟩,rfl⟩,?_,?_,hK⟩
    ·(repeat' first|exact True.intro|with_reducible rfl|apply And.intro|exact Z _|(intros;with_reducible rfl)|(intros;assumption)|decide|(intros;exact Z _)|(intros;apply Or.inl;with_reducible rfl))
    ·(repeat' first|exact True.intro|with_reducible rfl|apply And.intro|exact Z _|(intros;with_reducible rfl)|(intros;assumption)|decide|(intros;exact Z _)|(intros;apply Or.inl;with_reducible rfl))
     ·exact ze9 hF
    ·rfl
    ·show 1<=4
     decide
end Go.Proofs.YtabiechfpefjhaaGreat.Dc
namespace Go.Proofs.YtabiechfpefjhaaGreat.Ck
open Go Go.RowKit Sx Cn Dc
noncomputable section
structure Cf where
 W:Int
 L:Int
 C:Int
 T:Int
 D:Int
 H:Int
 B:Int
 A:Int
 P:Int
 nP:Nat
 rc:Nat
 nU:Nat
 cu:Nat
 lenP:Nat->Nat
 FC:Nat->Nat
 iO:Nat->Nat->Int
 iA:Nat->Nat->Int
 iB:Nat->Nat->Int
 uP:Nat->Int
 uL:Nat->Int
 uD:Nat->Int
section
variable (c:Cf)
def argC:SV:=.a [.iv .i64 c.W,.iv .i64 c.L,.iv .i64 c.C,.iv .i64 c.T,.iv .i64 c.D,.iv .i64 c.H,.iv .i64 c.B,.iv .i64 c.A,.iv .i64 c.P,slK 0 1 c.nP c.rc,slK 1 3 c.nU c.cu]
def hC:HL:=[(0,.view 1 (fun _=>c.nP) [.cs 2 3 (fun _ e=>e) (fun _ e=>c.lenP e) (fun _ e=>c.FC e)]),(1,.view 1 (fun _=>c.nU) [.ci .i64 fun _ e=>c.uP e,.ci .i64 fun _ e=>c.uL e,.ci .i64 fun _ e=>c.uD e]),(2,.view c.nP c.lenP [.ci .i64 fun i e=>c.iO i e,.ci .i64 fun i e=>c.iA i e,.ci .i64 fun i e=>c.iB i e])]
def okN:Prop:=(1<=c.W/\c.W<=16)/\(1<=c.L/\c.L<=64)/\(1<=c.C/\c.C<=min 8 c.L)/\(1<=c.T/\c.T<=256)/\(1<=c.D/\c.D<=64)/\(1<=c.H/\c.H<=64)/\(1<=c.B/\c.B<=c.D)/\(0<=c.A/\c.A<=65536)/\(1<=c.P/\c.P<=65536)
def okI(i e:Nat):Prop:=(c.iO i e=0/\(1<=c.iA i e/\c.iA i e<=64)/\c.iB i e=0)\/(c.iO i e=1/\(0<=c.iA i e/\c.iA i e<=(c.nP:Int)-1)/\(0<=c.iB i e/\c.iB i e<=c.L-1))\/(c.iO i e=2/\(0<=c.iA i e/\c.iA i e<=31)/\c.iB i e=0)
def okP:Prop:=(1<=c.nP/\c.nP<=32)/\∀i,i<c.nP->c.lenP i<=32/\∀e,e<c.lenP i->okI c i e
def okU:Prop:=c.nU<=64/\∀e,e<c.nU->(0<=c.uP e/\c.uP e<=(c.nP:Int)-1)/\(0<=c.uL e/\c.uL e<=c.L-1)/\(0<=c.uD e/\c.uD e<=16777215)
def okC:Prop:=okN c/\okP c/\okU c
end
def colsOf:Blk->List Col
 | .row _ _ _ l=>l
 | .fam _ _ _ _ l=>l
 | .view _ _ l=>l
 | _=>[]
def numC:SC->Option Int
 | .iv _ x=>some x
 | .ki _ x=>some x
 | _=>none
def cfBlk(H:HL)(kr ku:Nat)(K:Nat->(Nat->Nat->Nat)->(Nat->Nat->Nat)->(Nat->Nat->Int)->(Nat->Nat->Int)->(Nat->Nat->Int)->(Nat->Nat->Int)->(Nat->Nat->Int)->(Nat->Nat->Int)->Out (SV×Hp)):Out (SV×Hp):=
 match find kr H,find ku H with
 | some br,some bu=>match colsOf br,colsOf bu with
  | [.cs kF _ _ ln cp],[.ci _ f,.ci _ g,.ci _ h]=>match find kF H with
   | some bF=>match colsOf bF with
    | [.ci _ o,.ci _ a,.ci _ b]=>fN kF fun kF=>K kF ln cp o a b f g h
    | _=>.bad 430
   | _=>.bad 431
  | _,_=>.bad 432
 | _,_=>.bad 433
theorem cfBlk_ok(H:HL)(kr ku:Nat)(K:Nat->(Nat->Nat->Nat)->(Nat->Nat->Nat)->(Nat->Nat->Int)->(Nat->Nat->Int)->(Nat->Nat->Int)->(Nat->Nat->Int)->(Nat->Nat->Int)->(Nat->Nat->Int)->Out (SV×Hp)):(∃n,cfBlk H kr ku K=.bad n)\/∃a b c d e f g i j,cfBlk H kr ku K=K a b c d e f g i j:=by
 unfold cfBlk
 simp only[fN_eq]
 repeat' split
 all_goals first|exact .inl ⟨_,rfl⟩|exact .inr ⟨_,_,_,_,_,_,_,_,_,rfl⟩
def inTree(v lo hi:Int):Out (SV×Hp):=ze4 P con0 noAnn 3 2 136 [iv v,iv lo,iv hi] emp
def postIn:List Int->Out SV
 | [v,lo,hi]=>.leaf (.c (.bv (decide (lo<=v/\v<=hi))))
 | _=>.bad 400
end
theorem in_eq(v lo hi:Int):inTree v lo hi=
 Out.br (decide (v >= lo))
  (Out.leaf (SV.c (SC.bv (decide (v<=hi))),{ h:=[],nxt:=0,D:=fun x=>True }))
  (Out.leaf (SV.c (SC.kb false),{ h:=[],nxt:=0,D:=fun x=>True })):=by kernel_rfl
theorem three_args{l:List Int}(h:l.length=3):∃a b c,l=[a,b,c]:=by
 match l,h with
 | [a,b,c],_=>exact⟨a,b,c,rfl⟩
theorem pure127:PureC P 136 [.i64,.i64,.i64] postIn:=pureC_of (zfb (P:=P) (con:=con0) (u:=3) zaj.nil 2) fun l hl K hK=>by
 obtain⟨v,lo,hi,rfl⟩:=three_args hl
 have hK:K (.c (.bv (decide (lo<=v/\v<=hi)))):=hK
 change(inTree v lo hi).holds _
 rw[in_eq]
 simp only[Out.holds]
 refine⟨fun h=>?_,fun h=>?_⟩
 ·have h:=of_decide_eq_true h
  refine⟨rfl,.c (.bv (decide (lo<=v/\v<=hi))),?_,hK⟩
  show decide (v<=hi)=decide (lo<=v/\v<=hi)
  have h':lo<=v:=h
  simp[h']
 ·have h:=of_decide_eq_false h
  refine⟨rfl,.c (.bv (decide (lo<=v/\v<=hi))),?_,hK⟩
  show false=decide (lo<=v/\v<=hi)
  have h':¬lo<=v:=h
  simp[h']
noncomputable section
def con7:Con:=Con.add 136 (conP [.i64,.i64,.i64] postIn) con0
theorem con7_ok:zaj P con7:=.add (conP_ok pure127) zaj.nil
variable (c:Cf)
end
end Go.Proofs.YtabiechfpefjhaaGreat.Ck
namespace Go.Proofs.YtabiechfpefjhaaGreat.Vc
open Go Go.RowKit Sx Cn Dc Ck
def intT(i:Nat)(s:St):Option Int:=match s.tmps[i]? with
 | some (some (.c c))=>match asI (.c c) with
  | some r=>some r.2.2
  | none=>none
 | _=>none
noncomputable section
open Classical in
def pE(c:Cf):Nat->Nat->Int
 | _,0=>0
 | i,k+1=>if 32<c.lenP i then 2 else if ∃e,e<c.lenP i/\¬okI c i e then 1 else pE c (i+1) k
open Classical in
def uE(c:Cf):Nat->Nat->Int
 | _,0=>0
 | i,k+1=>if ¬(0<=c.uP i/\c.uP i<=(c.nP:Int)-1) then 3 else if ¬((0<=c.uL i/\c.uL i<=c.L-1)/\(0<=c.uD i/\c.uD i<=16777215)) then 1 else uE c (i+1) k
open Classical in
def zcq(c:Cf):Int:=if ¬(1<=c.nP/\c.nP<=32) then 2 else pE c 0 c.nP
open Classical in
def subE(c:Cf):Int:=if 64<c.nU then 2 else uE c 0 c.nU
open Classical in
def errE(c:Cf):Int:=if ¬okN c then 1 else if zcq c≠0 then zcq c else subE c
def retC(x:Int)(c:Cf)(pre:Prop):Out (SV×Hp):=.need pre (.leaf (iv x,⟨[],3,fun _=>True⟩))
section
variable (c:Cf)
def cntL(t:Nat)(I:Int->Prop)(n:Nat):LA Int:=⟨[],fun _=>[],[t],fun i=>[iv i],intT t,I,fun i=>n-i.toNat⟩
def progI(i:Int):Prop:=0<=i/\i<=c.nP/\pE c i.toNat (c.nP-i.toNat)=pE c 0 c.nP
def instrI(i:Int)(k:Int):Prop:=0<=k/\k<=c.lenP i.toNat/\∀e:Nat,(e:Int)<k->okI c i.toNat e
def subI(i:Int):Prop:=0<=i/\i<=c.nU/\uE c i.toNat (c.nU-i.toNat)=uE c 0 c.nU
def av101:AV:=.loop Int [] (fun _=>some (cntL 15 (progI c) c.nP)) (.loop Int [] (fun s=>(intT 15 s).map fun i=>cntL 24 (instrI c i) (c.lenP i.toNat)) .nil .nil) .nil
def av102:AV:=.loop Int [] (fun _=>some (cntL 12 (subI c) c.nU)) .nil .nil
def fin0(x:Int):SV->Hp->V:=finV (X:=Unit) 3 3 (fun _ _=>some ()) (fun _ _=>[]) (fun _=>True) (fun _=>iv x) (fun _=>[])
def ver101:V:=verF P con7 3 3 103 [] (av101 c) [argC c] ⟨hC c,3,fun _=>True⟩ (fin0 (zcq c))
def ver102:V:=verF P con7 3 3 104 [] (av102 c) [argC c] ⟨hC c,3,fun _=>True⟩ (fin0 (subE c))
end
end
abbrev lr17(a0:Int)(a1:Cf)(a2:Int)(k:V):V:=U (O 0<=i64.wrap (a0+O 1)/\i64.wrap (a0+O 1)<=(↑(a1.lenP a2.toNat):Int)/\∀(e:Nat),(↑e:Int)<i64.wrap (a0+O 1)->okI a1 a2.toNat e) (U (a1.lenP a2.toNat-(i64.wrap (a0+O 1)).toNat<a1.lenP a2.toNat-a0.toNat) (U (i64.wrap (a0+O 1)=i64.wrap (a0+O 1)) k))
abbrev lr25(a0:Cf)(k:V):V:=U True (U (O 1=zcq a0) k)
abbrev lr0(k:V):V:=U (0<1/\0<1) (U (0<1/\0<1) k)
abbrev lr33(k:V):V:=lr0 (lr0 k)
abbrev lr34(k:V):V:=lr0 (U (0<1/\0<1) k)
abbrev lr40(a0:Cf)(a1 a2:Int)(k:V):V:=zj (!a0.iB (0+a1.toNat) (0+a2.toNat) == O 0) (U True (U (O 1=zcq a0) (zw))) (lr17 a2 a0 a1 k)
abbrev lr43(a0:Int)(a1:Cf)(a2:Int)(k:V):V:=U (0+a0.toNat<a1.nP/\0+a2.toNat<a1.lenP (0+a0.toNat)) (U (0+a0.toNat<a1.nP/\0+a2.toNat<a1.lenP (0+a0.toNat)) k)
theorem ver101_eq(c:Cf):ver101 c=
 zj (!decide (O 1<=(↑c.nP:Int)/\(↑c.nP:Int)<=O 32)) (U True (U (O 2=zcq c) (zw))) (U (O 0<=O 0/\O 0<=(↑c.nP:Int)/\pE c 0 (c.nP-0)=pE c 0 c.nP) (U (O 0=O 0) (V.any Int (progI c) fun y0=>zj (decide (y0<(↑c.nP:Int))) (U (O 0<=y0/\y0<(↑c.nP:Int)) (U (0<1/\0+y0.toNat<c.nP) (U (0<1/\0+y0.toNat<c.nP) (zj (decide ((↑(c.lenP (0+y0.toNat)):Int)>O 32)) (U True (U (O 2=zcq c) (zw))) (U (O 0<=O 0/\O 0<=(↑(c.lenP y0.toNat):Int)/\∀(e:Nat),(↑e:Int)<O 0->okI c y0.toNat e) (U (O 0=O 0) (V.any Int (instrI c y0) fun y1=>zj (decide (y1<(↑(c.lenP (0+y0.toNat)):Int))) (U (O 0<=y1/\y1<(↑(c.lenP (0+y0.toNat)):Int)) (lr43 y0 c y1 (lr43 y0 c y1 (lr33 (lr33 (lr34 (zj (c.iO (0+y0.toNat) (0+y1.toNat) == O 0) (zj (decide (O 1<=c.iA (0+y0.toNat) (0+y1.toNat)/\c.iA (0+y0.toNat) (0+y1.toNat)<=O 64)) (lr40 c y0 y1 zw) (lr25 c zw)) (zj (c.iO (0+y0.toNat) (0+y1.toNat) == O 1) (zj (decide (O 0<=c.iA (0+y0.toNat) (0+y1.toNat)/\c.iA (0+y0.toNat) (0+y1.toNat)<=i64.wrap ((↑c.nP:Int)-O 1))) (zj (!decide (O 0<=c.iB (0+y0.toNat) (0+y1.toNat)/\c.iB (0+y0.toNat) (0+y1.toNat)<=i64.wrap (c.L-O 1))) (U True (U (O 1=zcq c) (zw))) (lr17 y1 c y0 zw)) (lr25 c zw)) (zj (c.iO (0+y0.toNat) (0+y1.toNat) == O 2) (zj (decide (O 0<=c.iA (0+y0.toNat) (0+y1.toNat)/\c.iA (0+y0.toNat) (0+y1.toNat)<=O 31)) (lr40 c y0 y1 zw) (lr25 c zw)) (lr25 c zw)))))))))) (U (O 0<=i64.wrap (y0+O 1)/\i64.wrap (y0+O 1)<=(↑c.nP:Int)/\pE c (i64.wrap (y0+O 1)).toNat (c.nP-(i64.wrap (y0+O 1)).toNat)=pE c 0 c.nP) (U (c.nP-(i64.wrap (y0+O 1)).toNat<c.nP-y0.toNat) (U (i64.wrap (y0+O 1)=i64.wrap (y0+O 1)) zw)))))))))) (U True (U (O 0=zcq c) zw))))):=by kernel_rfl
theorem ver102_eq(c:Cf):ver102 c=
 zj (decide ((↑c.nU:Int)>O 64)) (U True (U (O 2=subE c) (zw))) (U (O 0<=O 0/\O 0<=(↑c.nU:Int)/\uE c 0 (c.nU-0)=uE c 0 c.nU) (U (O 0=O 0) (V.any Int (subI c) fun y0=>zj (decide (y0<(↑c.nU:Int))) (U (O 0<=y0/\y0<(↑c.nU:Int)) (U (0<1/\0+y0.toNat<c.nU) (U (0<1/\0+y0.toNat<c.nU) (U (0<1/\0+y0.toNat<c.nU) (U (0<1/\0+y0.toNat<c.nU) (lr0 (zj (!decide (O 0<=c.uP (0+y0.toNat)/\c.uP (0+y0.toNat)<=i64.wrap ((↑c.nP:Int)-O 1))) (U True (U (O 3=subE c) (zw))) (lr0 (zj (!decide (O 0<=c.uL (0+y0.toNat)/\c.uL (0+y0.toNat)<=i64.wrap (c.L-O 1))) (U True (U (O 1=subE c) (zw))) (zj (!decide (O 0<=c.uD (0+y0.toNat)/\c.uD (0+y0.toNat)<=O 16777215)) (U True (U (O 1=subE c) (zw))) (U (O 0<=i64.wrap (y0+O 1)/\i64.wrap (y0+O 1)<=(↑c.nU:Int)/\uE c (i64.wrap (y0+O 1)).toNat (c.nU-(i64.wrap (y0+O 1)).toNat)=uE c 0 c.nU) (U (c.nU-(i64.wrap (y0+O 1)).toNat<c.nU-y0.toNat) (U (i64.wrap (y0+O 1)=i64.wrap (y0+O 1)) zw))))))))))))) (U True (U (O 0=subE c) zw))))):=by kernel_rfl
theorem pE_step{c:Cf}{i:Nat}(h:i<c.nP)(hl:c.lenP i<=32)(ha:∀e,e<c.lenP i->okI c i e):pE c i (c.nP-i)=pE c (i+1) (c.nP-(i+1)):=by
 rw[show c.nP-i=c.nP-(i+1)+1 by omega,pE,if_neg (by omega),if_neg (by rintro⟨e,h1,h2⟩;exact h2 (ha e h1))]
theorem pE_len{c:Cf}{i:Nat}(h:i<c.nP)(hl:32<c.lenP i):pE c i (c.nP-i)=2:=by
 rw[show c.nP-i=c.nP-(i+1)+1 by omega,pE,if_pos hl]
theorem pE_bad{c:Cf}{i e:Nat}(h:i<c.nP)(hl:c.lenP i<=32)(he:e<c.lenP i)(hb:¬okI c i e):pE c i (c.nP-i)=1:=by
 rw[show c.nP-i=c.nP-(i+1)+1 by omega,pE,if_neg (by omega),if_pos ⟨e,he,hb⟩]
theorem pE_end{c:Cf}:pE c c.nP (c.nP-c.nP)=0:=by rw[Nat.sub_self];rfl
theorem prog_rest{c:Cf}(h:(1:Int)<=c.nP/\(c.nP:Int)<=32):zcq c=pE c 0 c.nP:=by
 unfold zcq;rw[if_neg (by omega)]
theorem prog_len{c:Cf}{i:Int}(h:(1:Int)<=c.nP/\(c.nP:Int)<=32)(hi:0<=i/\i<=(c.nP:Int)/\pE c i.toNat (c.nP-i.toNat)=pE c 0 c.nP)(hlt:i<c.nP)(hl:(32:Int)<c.lenP i.toNat):2=zcq c:=by
 rw[prog_rest h,<-hi.2.2,pE_len (by omega) (by omega)]
theorem prog_bad{c:Cf}{i k:Int}(h:(1:Int)<=c.nP/\(c.nP:Int)<=32)(hi:0<=i/\i<=(c.nP:Int)/\pE c i.toNat (c.nP-i.toNat)=pE c 0 c.nP)(hlt:i<c.nP)(hl:¬(32:Int)<c.lenP i.toNat)(hk:k<c.lenP i.toNat)(h0:0<=k)(hb:¬okI c i.toNat k.toNat):1=zcq c:=by
 rw[prog_rest h,<-hi.2.2,pE_bad (by omega) (by omega) (e:=k.toNat) (by omega) hb]
theorem instr_next{c:Cf}{i k:Int}(hk:0<=k/\k<=(c.lenP i.toNat:Int)/\∀e:Nat,(e:Int)<k->okI c i.toNat e)(hl:k<c.lenP i.toNat)(hm:¬(32:Int)<c.lenP i.toNat){e:Nat}(he:(e:Int)<i64.wrap (k+1))(ho:okI c i.toNat k.toNat):okI c i.toNat e:=by
 rw[w64 (by omega)]at he
 rcases Int.lt_or_eq_of_le (show(e:Int)<=k by omega) with h|h
 ·exact hk.2.2 e h
 ·have:e=k.toNat:=by omega
  rw[this];exact ho
theorem prog_next{c:Cf}{i k:Int}(h:(1:Int)<=c.nP/\(c.nP:Int)<=32)(hi:0<=i/\i<=(c.nP:Int)/\pE c i.toNat (c.nP-i.toNat)=pE c 0 c.nP)(hlt:i<c.nP)(hl:¬(32:Int)<c.lenP i.toNat)(hk:0<=k/\k<=(c.lenP i.toNat:Int)/\∀e:Nat,(e:Int)<k->okI c i.toNat e)(hn:¬k<c.lenP i.toNat):
  pE c (i64.wrap (i+1)).toNat (c.nP-(i64.wrap (i+1)).toNat)=pE c 0 c.nP:=by
 rw[w64 (by omega),<-hi.2.2,pE_step (i:=i.toNat) (by omega) (by omega) (fun e he=>hk.2.2 e (by omega)),show(i+1).toNat=i.toNat+1 by omega]
theorem prog_end{c:Cf}{i:Int}(h:(1:Int)<=c.nP/\(c.nP:Int)<=32)(hi:0<=i/\i<=(c.nP:Int)/\pE c i.toNat (c.nP-i.toNat)=pE c 0 c.nP)(hn:¬i<c.nP):0=zcq c:=by
 rw[prog_rest h,<-hi.2.2,show i.toNat=c.nP by omega,pE_end]
theorem vh101{c:Cf}(hN:okN c):zad (ver101 c):=by
 constructor
 rw[ver101_eq]
 obtain⟨_,hNL,_⟩:=hN
 simp only[V.holds,progI,instrI,zz,decide_eq_true_eq,decide_eq_false_iff_not,z7,za,beq_iff_eq,beq_eq_false_iff_ne,ne_eq,true_and,and_true,forall_const,true_implies,implies_true,z8,Nat.sub_zero,Nat.lt_add_one,Nat.zero_lt_one,Int.natCast_zero,Int.natCast_one,Int.cast_ofNat_Int,gt_iff_lt,and_self,eq_self]
 have w1:(1:Int)<=c.nP/\(c.nP:Int)<=32->i64.wrap ((c.nP:Int)-1)=(c.nP:Int)-1:=fun h=>w64 (by omega)
 have w2:i64.wrap (c.L-1)=c.L-1:=w64 (by omega)
 rw[w2]
 repeat' first|exact True.intro|apply And.intro|intro _
 all_goals try omega
 all_goals try (unfold zcq;rw[if_pos (by omega)];done)
 all_goals try (first|exact prog_len ‹_› ‹_› ‹_› ‹_›)
 all_goals try (rw[w1 ‹_›]at *)
 all_goals try (exact prog_bad ‹_› ‹_› ‹_› ‹_› ‹_› (by omega) (by unfold okI;omega))
 all_goals try (exact instr_next ‹_› ‹_› ‹_› ‹_› (by unfold okI;omega))
 all_goals try (exact prog_next ‹_› ‹_› ‹_› ‹_› ‹_› ‹_›)
 all_goals try (rw[w64 (by omega)];omega)
 all_goals exact prog_end ‹_› ‹_› ‹_›
theorem uE_step{c:Cf}{i:Nat}(h:i<c.nU)(h1:0<=c.uP i/\c.uP i<=(c.nP:Int)-1)(h2:(0<=c.uL i/\c.uL i<=c.L-1)/\(0<=c.uD i/\c.uD i<=16777215)):uE c i (c.nU-i)=uE c (i+1) (c.nU-(i+1)):=by
 rw[show c.nU-i=c.nU-(i+1)+1 by omega,uE,if_neg (by omega),if_neg (by omega)]
theorem uE_unk{c:Cf}{i:Nat}(h:i<c.nU)(h1:¬(0<=c.uP i/\c.uP i<=(c.nP:Int)-1)):uE c i (c.nU-i)=3:=by
 rw[show c.nU-i=c.nU-(i+1)+1 by omega,uE,if_pos h1]
theorem uE_range{c:Cf}{i:Nat}(h:i<c.nU)(h1:0<=c.uP i/\c.uP i<=(c.nP:Int)-1)(h2:¬((0<=c.uL i/\c.uL i<=c.L-1)/\(0<=c.uD i/\c.uD i<=16777215))):uE c i (c.nU-i)=1:=by
 rw[show c.nU-i=c.nU-(i+1)+1 by omega,uE,if_neg (by omega),if_pos h2]
theorem sub_rest{c:Cf}(h:¬(64:Int)<c.nU):subE c=uE c 0 c.nU:=by
 unfold subE;rw[if_neg (by omega)]
theorem sub_unk{c:Cf}{i:Int}(h:¬(64:Int)<c.nU)(hi:0<=i/\i<=(c.nU:Int)/\uE c i.toNat (c.nU-i.toNat)=uE c 0 c.nU)(hlt:i<c.nU)(h1:¬(0<=c.uP i.toNat/\c.uP i.toNat<=(c.nP:Int)-1)):3=subE c:=by
 rw[sub_rest h,<-hi.2.2,uE_unk (by omega) h1]
theorem sub_range{c:Cf}{i:Int}(h:¬(64:Int)<c.nU)(hi:0<=i/\i<=(c.nU:Int)/\uE c i.toNat (c.nU-i.toNat)=uE c 0 c.nU)(hlt:i<c.nU)(h1:0<=c.uP i.toNat/\c.uP i.toNat<=(c.nP:Int)-1)(h2:¬((0<=c.uL i.toNat/\c.uL i.toNat<=c.L-1)/\(0<=c.uD i.toNat/\c.uD i.toNat<=16777215))):1=subE c:=by
 rw[sub_rest h,<-hi.2.2,uE_range (by omega) h1 h2]
theorem sub_next{c:Cf}{i:Int}(h:¬(64:Int)<c.nU)(hi:0<=i/\i<=(c.nU:Int)/\uE c i.toNat (c.nU-i.toNat)=uE c 0 c.nU)(hlt:i<c.nU)(h1:0<=c.uP i.toNat/\c.uP i.toNat<=(c.nP:Int)-1)(h2:(0<=c.uL i.toNat/\c.uL i.toNat<=c.L-1)/\(0<=c.uD i.toNat/\c.uD i.toNat<=16777215)):
  uE c (i64.wrap (i+1)).toNat (c.nU-(i64.wrap (i+1)).toNat)=uE c 0 c.nU:=by
 rw[w64 (by omega),<-hi.2.2,uE_step (i:=i.toNat) (by omega) h1 h2,show(i+1).toNat=i.toNat+1 by omega]
theorem sub_end{c:Cf}{i:Int}(h:¬(64:Int)<c.nU)(hi:0<=i/\i<=(c.nU:Int)/\uE c i.toNat (c.nU-i.toNat)=uE c 0 c.nU)(hn:¬i<c.nU):0=subE c:=by
 rw[sub_rest h,<-hi.2.2,show i.toNat=c.nU by omega,Nat.sub_self];rfl
theorem vh102{c:Cf}(hN:okN c)(hP:(1:Int)<=c.nP/\(c.nP:Int)<=32):zad (ver102 c):=by
 constructor
 rw[ver102_eq]
 obtain⟨_,hNL,_⟩:=hN
 simp only[V.holds,subI,zz,decide_eq_true_eq,decide_eq_false_iff_not,z7,za,beq_iff_eq,beq_eq_false_iff_ne,ne_eq,true_and,and_true,forall_const,true_implies,implies_true,z8,Nat.sub_zero,Nat.lt_add_one,Nat.zero_lt_one,Int.natCast_zero,Int.natCast_one,Int.cast_ofNat_Int,gt_iff_lt,and_self,eq_self]
 rw[show i64.wrap ((c.nP:Int)-1)=(c.nP:Int)-1 from w64 (by omega),show i64.wrap (c.L-1)=c.L-1 from w64 (by omega)]
 repeat' first|exact True.intro|apply And.intro|intro _
 all_goals try omega
 all_goals try (unfold subE;rw[if_pos (by omega)];done)
 all_goals try (exact sub_unk ‹_› ‹_› ‹_› ‹_›)
 all_goals try (exact sub_range ‹_› ‹_› ‹_› ‹_› (by omega))
 all_goals try (exact sub_next ‹_› ‹_› ‹_› ‹_› (by omega))
 all_goals try (exact sub_end ‹_› ‹_› ‹_›)
 all_goals try (rw[w64 (by omega)];omega)
noncomputable section
def zex(post:Cf->Out (SV×Hp)):List SV->Hp->Out (SV×Hp):=fun args H=>match args with
  | [.a [x0,x1,x2,x3,x4,x5,x6,x7,x8,.slc kr _ _ _ nP rc,.slc ku _ _ _ nU cu]]=>match numC x0,numC x1,numC x2,numC x3,numC x4,numC x5,numC x6,numC x7,numC x8 with
    | some W,some L,some C,some T,some D,some h,some B,some A,some Q=>fN kr fun kr=>fN ku fun ku=>cfBlk H.h kr ku fun kF ln cp o a b f g k=>useP [kr,ku,kF] 3
                [argC ⟨W,L,C,T,D,h,B,A,Q,nP.v,rc.v,nU.v,cu.v,fun e=>ln 0 e,fun e=>cp 0 e,o,a,b,fun e=>f 0 e,fun e=>g 0 e,fun e=>k 0 e⟩]
                (hC ⟨W,L,C,T,D,h,B,A,Q,nP.v,rc.v,nU.v,cu.v,fun e=>ln 0 e,fun e=>cp 0 e,o,a,b,fun e=>f 0 e,fun e=>g 0 e,fun e=>k 0 e⟩)
                (post ⟨W,L,C,T,D,h,B,A,Q,nP.v,rc.v,nU.v,cu.v,fun e=>ln 0 e,fun e=>cp 0 e,o,a,b,fun e=>f 0 e,fun e=>g 0 e,fun e=>k 0 e⟩) args H
    | _,_,_,_,_,_,_,_,_=>.bad 434
  | _=>.bad 435
theorem zcu{f:FuncId}{post:Cf->Out (SV×Hp)}(h:∀c,zah P f [argC c] (hC c) 3 (post c)):zab P f (zex post):=zac fun args H=>by
 unfold zex
 simp only[fN_eq]
 repeat' split
 all_goals first|exact .inl ⟨_,rfl⟩|exact(cfBlk_ok _ _ _ _).elim .inl fun ⟨_,_,_,_,_,_,_,_,_,e⟩=>.inr ⟨_,_,_,_,_,e,h _⟩
def conProg:List SV->Hp->Out (SV×Hp):=zex fun c=>retC (zcq c) c (okN c)
def conSub:List SV->Hp->Out (SV×Hp):=zex fun c=>retC (subE c) c (okN c/\(1:Int)<=c.nP/\(c.nP:Int)<=32)
theorem conProg_ok:zab P 103 conProg:=zcu fun c=>zai con7_ok fun hN=>vh101 hN
theorem conSub_ok:zab P 104 conSub:=zcu fun c=>zai con7_ok fun h=>vh102 h.1 h.2
def conC1:Con:=Con.add 103 conProg (Con.add 104 conSub con7)
theorem conC1_ok:zaj P conC1:=.add conProg_ok (.add conSub_ok con7_ok)
section
variable (c:Cf)
def ver58:V:=verF P conC1 3 3 57 [] .nil [argC c] ⟨hC c,3,fun _=>True⟩ (fin0 (errE c))
end
end
abbrev lr10(a0:Cf)(k:V):V:=U True (U (O 1=errE a0) k)
abbrev lr11(a0:Cf)(k:V):V:=U (∀(i e:Nat),i<1/\e<a0.nU->a0.uP e=a0.uP e) (U (∀(i e:Nat),i<1/\e<a0.nU->a0.uL e=a0.uL e) (U (∀(i e:Nat),i<1/\e<a0.nU->a0.uD e=a0.uD e) k))
abbrev lr1(a0:Cf)(k:V):V:=U (∀(i e:Nat),i<1/\e<a0.nP->a0.lenP e=a0.lenP e) (U (∀(i e:Nat),i<1/\e<a0.nP->a0.FC e=a0.FC e) k)
abbrev lr13(a0:Cf)(k:V):V:=U (1<=1) (U (∀(i:Nat),i<1->a0.nU<=a0.nU) k)
abbrev lr26(a0:Cf)(k:V):V:=U (1<=1) (U (∀(i:Nat),i<1->a0.nP<=a0.nP) (U (∀(i e:Nat),i<1/\e<a0.nP->e=e) k))
abbrev lr7(a0:Cf)(k:V):V:=U (a0.nP=a0.nP) (U (a0.rc=a0.rc) k)
abbrev lr8(a0:Cf)(k:V):V:=U (a0.nU=a0.nU) (U (a0.cu=a0.cu) k)
abbrev lr30(a0:Cf)(k:V):V:=U (a0.W=a0.W) (U (a0.L=a0.L) (U (a0.C=a0.C) (U (a0.T=a0.T) (U (a0.D=a0.D) (U (a0.H=a0.H) (U (a0.B=a0.B) (U (a0.A=a0.A) (U (a0.P=a0.P) k))))))))
abbrev lr31(a0:Cf)(k:V):V:=lr30 a0 (lr7 a0 (lr8 a0 k))
abbrev lr3(a0:Cf)(k:V):V:=U (∀(i e:Nat),i<a0.nP/\e<a0.lenP i->a0.iO i e=a0.iO i e) (U (∀(i e:Nat),i<a0.nP/\e<a0.lenP i->a0.iA i e=a0.iA i e) (U (∀(i e:Nat),i<a0.nP/\e<a0.lenP i->a0.iB i e=a0.iB i e) k))
abbrev lr4(a0:Cf)(k:V):V:=U (a0.nP<=a0.nP) (U (∀(i:Nat),i<a0.nP->a0.lenP i<=a0.lenP i) k)
theorem ver58_eq(c:Cf):ver58 c=
 zj (decide (O 1<=c.W/\c.W<=O 16)) (zj (decide (O 1<=c.L/\c.L<=O 64)) (zj (decide (O 1<=c.C/\c.C<=min (O 8) c.L)) (zj (decide (O 1<=c.T/\c.T<=O 256)) (zj (decide (O 1<=c.D/\c.D<=O 64)) (zj (decide (O 1<=c.H/\c.H<=O 64)) (zj (decide (O 1<=c.B/\c.B<=c.D)) (zj (decide (O 0<=c.A/\c.A<=O 65536)) (zj (!decide (O 1<=c.P/\c.P<=O 65536)) (U True (U (O 1=errE c) (zw))) (lr31 c (lr26 c (lr1 c (lr13 c (lr11 c (lr4 c (lr3 c (U (okN { W:=c.W,L:=c.L,C:=c.C,T:=c.T,D:=c.D,H:=c.H,B:=c.B,A:=c.A,P:=c.P,nP:=c.nP,rc:=c.rc,nU:=c.nU,cu:=c.cu,lenP:=fun e=>c.lenP e,FC:=fun e=>c.FC e,iO:=fun i e=>c.iO i e,iA:=fun i e=>c.iA i e,iB:=fun i e=>c.iB i e,uP:=fun e=>c.uP e,uL:=fun e=>c.uL e,uD:=fun e=>c.uD e }) (zj (zcq { W:=c.W,L:=c.L,C:=c.C,T:=c.T,D:=c.D,H:=c.H,B:=c.B,A:=c.A,P:=c.P,nP:=c.nP,rc:=c.rc,nU:=c.nU,cu:=c.cu,lenP:=fun e=>c.lenP e,FC:=fun e=>c.FC e,iO:=fun i e=>c.iO i e,iA:=fun i e=>c.iA i e,iB:=fun i e=>c.iB i e,uP:=fun e=>c.uP e,uL:=fun e=>c.uL e,uD:=fun e=>c.uD e } != O 0) (U True (U (zcq { W:=c.W,L:=c.L,C:=c.C,T:=c.T,D:=c.D,H:=c.H,B:=c.B,A:=c.A,P:=c.P,nP:=c.nP,rc:=c.rc,nU:=c.nU,cu:=c.cu,lenP:=fun e=>c.lenP e,FC:=fun e=>c.FC e,iO:=fun i e=>c.iO i e,iA:=fun i e=>c.iA i e,iB:=fun i e=>c.iB i e,uP:=fun e=>c.uP e,uL:=fun e=>c.uL e,uD:=fun e=>c.uD e }=errE c) (zw))) (lr31 c (lr26 c (lr1 c (lr13 c (lr11 c (lr4 c (lr3 c (U (okN { W:=c.W,L:=c.L,C:=c.C,T:=c.T,D:=c.D,H:=c.H,B:=c.B,A:=c.A,P:=c.P,nP:=c.nP,rc:=c.rc,nU:=c.nU,cu:=c.cu,lenP:=fun e=>c.lenP e,FC:=fun e=>c.FC e,iO:=fun i e=>c.iO i e,iA:=fun i e=>c.iA i e,iB:=fun i e=>c.iB i e,uP:=fun e=>c.uP e,uL:=fun e=>c.uL e,uD:=fun e=>c.uD e }/\O 1<=(↑c.nP:Int)/\(↑c.nP:Int)<=O 32) (U True (U (subE { W:=c.W,L:=c.L,C:=c.C,T:=c.T,D:=c.D,H:=c.H,B:=c.B,A:=c.A,P:=c.P,nP:=c.nP,rc:=c.rc,nU:=c.nU,cu:=c.cu,lenP:=fun e=>c.lenP e,FC:=fun e=>c.FC e,iO:=fun i e=>c.iO i e,iA:=fun i e=>c.iA i e,iB:=fun i e=>c.iB i e,uP:=fun e=>c.uP e,uL:=fun e=>c.uL e,uD:=fun e=>c.uD e }=errE c) zw)))))))))))))))))))) (lr10 c zw)) (lr10 c zw)) (lr10 c zw)) (lr10 c zw)) (lr10 c zw)) (lr10 c zw)) (lr10 c zw)) (lr10 c zw):=by kernel_rfl
theorem err_num{c:Cf}(h:¬okN c):1=errE c:=by unfold errE;rw[if_pos h]
theorem err_prog{c:Cf}(h:okN c)(hp:¬zcq c=0):zcq c=errE c:=by unfold errE;rw[if_neg (fun g=>g h),if_pos hp]
theorem err_sub{c:Cf}(h:okN c)(hp:zcq c=0):subE c=errE c:=by unfold errE;rw[if_neg (fun g=>g h),if_neg (fun g=>g hp)]
theorem prog_zero{c:Cf}(h:zcq c=0):(1:Int)<=c.nP/\(c.nP:Int)<=32:=by
 unfold zcq at h
 split at h
 ·cases h
 ·omega
theorem cf_eta(c:Cf):(⟨c.W,c.L,c.C,c.T,c.D,c.H,c.B,c.A,c.P,c.nP,c.rc,c.nU,c.cu,fun e=>c.lenP e,fun e=>c.FC e,fun i e=>c.iO i e,fun i e=>c.iA i e,fun i e=>c.iB i e,fun e=>c.uP e,fun e=>c.uL e,fun e=>c.uD e⟩:Cf)=c:=rfl
theorem vh58(c:Cf):zad (ver58 c):=by
 constructor
 rw[ver58_eq]
 simp only[V.holds,zz,decide_eq_true_eq,decide_eq_false_iff_not,z7,za,bne_iff_ne,bne_eq_false_iff_eq,beq_iff_eq,beq_eq_false_iff_ne,ne_eq,true_and,and_true,forall_const,true_implies,implies_true,z8,Nat.sub_zero,Nat.lt_add_one,Nat.zero_lt_one,Int.natCast_zero,Int.natCast_one,Int.cast_ofNat_Int,gt_iff_lt,and_self,eq_self,Z,cf_eta]
 repeat' first|exact True.intro|with_reducible apply And.intro|intro _
 all_goals first
  | (exact err_num (by unfold okN;omega))
  | (unfold okN;omega)
  | (exact err_prog (by unfold okN;omega) ‹_›)
  | (exact err_sub (by unfold okN;omega) ‹_›)
  | (exact(prog_zero ‹_›).1)
  | (exact(prog_zero ‹_›).2)
  | exact⟨by unfold okN;omega,prog_zero ‹_›⟩
noncomputable section
def retE:Cf->Out (SV×Hp):=fun c=>retC (errE c) c True
def conErr:List SV->Hp->Out (SV×Hp):=zex retE
theorem conErr58:zab P 57 conErr:=zcu fun c=>zai conC1_ok fun _=>vh58 c
end
noncomputable section
def capOf(k:Nat)(H:HL):Option Nat:=match find k H with
 | some (.row _ c _ _)=>some c
 | _=>none
def cellKey(k f:Nat)(H:HL):Nat:=match find k H with
 | some (.own _ _ cs)=>match (cs[f]?:Option (Option SC)) with
  | some (some c)=>Sx.keyOf c
  | _=>0
 | _=>0
end
end Go.Proofs.YtabiechfpefjhaaGreat.Vc
namespace Go.Proofs.YtabiechfpefjhaaGreat.Vc
open Go Go.RowKit Go.ChangeShapes Go.WideShapes Go.Deep Sx Cn Dc Ck
section
variable {H:Type} {enc:TypeId×Value->H} {P:Program} {w:World}
end
structure IsCfg (w:World) (c:Cf) (a9 a10:Option Addr) (aI:Nat->Option Addr):Prop where
 p:∀e,e<c.nP->∃x,a9=some x/\w.cell? (x.add e)=some (.slice (aI e) (c.lenP e) (c.FC e))
 i:∀i,i<c.nP->∀e,e<c.lenP i->∃x,aI i=some x/\w.cell? (x.add (e*3))=some (.int .i64 (c.iO i e))/\w.cell? ((x.add (e*3)).add 1)=some (.int .i64 (c.iA i e))/\w.cell? ((x.add (e*3)).add 2)=some (.int .i64 (c.iB i e))
 u:∀e,e<c.nU->∃x,a10=some x/\w.cell? (x.add (e*3))=some (.int .i64 (c.uP e))/\w.cell? ((x.add (e*3)).add 1)=some (.int .i64 (c.uL e))/\w.cell? ((x.add (e*3)).add 2)=some (.int .i64 (c.uD e))
 n:∀x∈[c.W,c.L,c.C,c.T,c.D,c.H,c.B,c.A,c.P],-9223372036854775808<=x/\x<=9223372036854775807
 ri:∀i,i<c.nP->∀e,e<c.lenP i->∀x∈[c.iO i e,c.iA i e,c.iB i e],-9223372036854775808<=x/\x<=9223372036854775807
 ru:∀e,e<c.nU->∀x∈[c.uP e,c.uL e,c.uD e],-9223372036854775808<=x/\x<=9223372036854775807
 lp:c.nP<=c.rc/\c.rc<=maxLen
 lu:c.nU<=c.cu/\c.cu<=maxLen
 li:∀i,i<c.nP->c.lenP i<=c.FC i/\c.FC i<=maxLen
def argCm(m:Nat)(c:Cf):SV:=.a [.iv .i64 c.W,.iv .i64 c.L,.iv .i64 c.C,.iv .i64 c.T,.iv .i64 c.D,.iv .i64 c.H,.iv .i64 c.B,.iv .i64 c.A,.iv .i64 c.P,slK m 1 c.nP c.rc,slK (m+1) 3 c.nU c.cu]
end Go.Proofs.YtabiechfpefjhaaGreat.Vc
namespace Go.Proofs.YtabiechfpefjhaaGreat.Vc
open Go Go.RowKit Sx Cn Dc Ck
noncomputable section
def decOf(g:Nat->Int)(len:Nat)(FC:Nat->Nat)(rc cu:Nat):Cf:=⟨dW g len,dL g len,dC g len,dT g len,dD g len,dH g len,dB g len,dA g len,dP g len,nP g len,rc,nU g len,cu,fun e=>lenP g len e,fun e=>FC e,fun i e=>cO g len i e,fun i e=>cA g len i e,fun i e=>cB g len i e,fun e=>uP g len e,fun e=>uL g len e,fun e=>uD g len e⟩
def IsDec(g:Nat->Int)(len:Nat)(d:Cf):Prop:=∃FC rc cu,((∀e,e<nP g len->lenP g len e<=FC e)/\nP g len<=rc/\nU g len<=cu)/\d=decOf g len FC rc cu
def hDec(d:Cf):HL:=[(1,.fam true 133 (gd d.nP d.FC) (gd d.nP d.lenP) [.ci .i64 fun i e=>d.iO i e,.ci .i64 fun i e=>d.iA i e,.ci .i64 fun i e=>d.iB i e]),
 (2,.row 131 d.rc d.nP [.cs 1 3 (fun _ e=>e) (fun _ e=>d.lenP e) (fun _ e=>d.FC e)]),(3,.row 135 d.cu d.nU [.ci .i64 fun _ e=>d.uP e,.ci .i64 fun _ e=>d.uL e,.ci .i64 fun _ e=>d.uD e])]
def outD(g:Nat->Int)(len:Nat):Out (SV×Hp):=.need (U8 len g) (.any Cf (IsDec g len) fun d=>.leaf (.a [.iv .i64 d.W,.iv .i64 d.L,.iv .i64 d.C,.iv .i64 d.T,.iv .i64 d.D,.iv .i64 d.H,.iv .i64 d.B,.iv .i64 d.A,.iv .i64 d.P,slK 2 1 d.nP d.rc,slK 3 3 d.nU d.cu],⟨hDec d,4,fun _=>True⟩))
theorem outD_h(g:Nat->Int)(len cap:Nat)(K:SV×Hp->Prop)(h:(outD g len).holds K):(post56 g len cap).holds K:=by
 obtain⟨h0,⟨d,FC0,rc0,cu0,hd,_⟩,h1⟩:=h
 refine⟨h0,⟨FC0,hd.1⟩,fun FC hF=>⟨⟨rc0,hd.2.1⟩,fun rc hr=>⟨⟨cu0,hd.2.2⟩,fun cu hu=>?_⟩⟩⟩
 exact h1 (decOf g len FC rc cu) ⟨FC,rc,cu,⟨hF,hr,hu⟩,rfl⟩
def conDec:List SV->Hp->Out (SV×Hp):=fun args H=>match args with
 | [.c (.slc kb _ _ _ len cap)]=>match rowFn H.h kb 0 with
  | some g=>useP [kb] 1 [.c (slK 0 1 len.v cap.v)] [(0,ints .u8 len.v g)] (outD g len.v) args H
  | _=>.bad 420
 | _=>.bad 421
theorem conDec_ok:zab P 26 conDec:=zac fun args H=>by
 unfold conDec
 repeat' split
 all_goals first|exact .inl ⟨_,rfl⟩|exact .inr ⟨_,_,_,_,_,rfl,(local56 _ _ _).mono (outD_h _ _ _)⟩
structure N9 where
 a0:Int
 a1:Int
 a2:Int
 a3:Int
 a4:Int
 a5:Int
 a6:Int
 a7:Int
 a8:Int
def rd9:SV->Option N9
 | .a [x0,x1,x2,x3,x4,x5,x6,x7,x8,_,_]=>match numC x0,numC x1,numC x2,numC x3,numC x4,numC x5,numC x6,numC x7,numC x8 with
  | some a,some b,some c,some d,some e,some f,some g,some h,some i=>some ⟨a,b,c,d,e,f,g,h,i⟩
  | _,_,_,_,_,_,_,_,_=>none
 | _=>none
def slKs:SV->Option (Nat×Nat×Nat×Nat×Nat×Nat)
 | .a [_,_,_,_,_,_,_,_,_,.slc kr _ _ _ nP rc,.slc ku _ _ _ nU cu]=>some (kr,nP.v,rc.v,ku,nU.v,cu.v)
 | _=>none
def rdCf(s:SV)(H:HL):Option (Cf×List Nat):=match rd9 s,slKs s with
 | some x,some (kr,nP,rc,ku,nU,cu)=>match find kr H,find ku H with
  | some br,some bu=>match Ck.colsOf br,Ck.colsOf bu with
   | [.cs kF _ _ ln cp],[.ci _ f,.ci _ g,.ci _ h]=>match find kF H with
    | some bF=>match Ck.colsOf bF with
     | [.ci _ o,.ci _ a,.ci _ b]=>some (⟨x.a0,x.a1,x.a2,x.a3,x.a4,x.a5,x.a6,x.a7,x.a8,nP,rc,nU,cu,fun e=>ln 0 e,fun e=>cp 0 e,o,a,b,fun e=>f 0 e,fun e=>g 0 e,fun e=>h 0 e⟩,[kr,ku,kF])
     | _=>none
    | _=>none
   | _,_=>none
  | _,_=>none
 | _,_=>none
def hOwn(m:Nat)(c:Cf):HL:=[(m,.row 131 c.rc c.nP [.cs (m+2) 3 (fun _ e=>e) (fun _ e=>c.lenP e) (fun _ e=>c.FC e)]),(m+1,.row 135 c.cu c.nU [.ci .i64 fun _ e=>c.uP e,.ci .i64 fun _ e=>c.uL e,.ci .i64 fun _ e=>c.uD e]),
 (m+2,.fam true 133 (gd c.nP c.FC) (gd c.nP c.lenP) [.ci .i64 fun i e=>c.iO i e,.ci .i64 fun i e=>c.iA i e,.ci .i64 fun i e=>c.iB i e])]
end
noncomputable section
def g2(i:Nat)(F:Nat->Nat)(x:Nat)(e:Nat):Nat:=if e<i then F e else if e=i then x else 0
def cellK(k f:Nat)(H:HL):Nat:=match find k H with
 | some (.own _ _ cs)=>match (cs[f]?:Option (Option SC)) with
  | some (some c)=>Sx.keyOf c
  | _=>0
 | some (.view _ _ cols)=>match (cols[f]?:Option Col) with
  | some (.ck [c])=>Sx.keyOf c
  | _=>0
 | _=>0
end
section
variable {g:Nat->Int} {len:Nat}
end
theorem wnat{i:Nat}(h:i<=1000000):i64.wrap ((i:Int)+1)=((i+1:Nat):Int):=w64 (by omega)
structure R3 where
 i:Nat
 n:Nat
 cap:Nat
 o:Nat->Nat->Int
 a:Nat->Nat->Int
 b:Nat->Nat->Int
noncomputable section
def R3.arg(r:R3)(k:Nat):SV:=.c (.slc k (.s r.i) (.k 0) 3 (.s r.n) (.s r.cap))
def R3.blk(r:R3):Blk:=.view (r.i+1) (fun q=>if q=r.i then r.n else 0) [.ci .i64 fun i e=>r.o i e,.ci .i64 fun i e=>r.a i e,.ci .i64 fun i e=>r.b i e]
def row3(H:HL)(k:Nat)(i n cap:NV):Option R3:=match find k H with
 | some b=>match Ck.colsOf b with
  | [.ci _ o,.ci _ a,.ci _ b]=>some ⟨i.v,n.v,cap.v,o,a,b⟩
  | _=>none
 | none=>none
end
section
variable {r s:R3}
theorem w1{x:Int}{n:Nat}(hn:n<=1000000)(h0:0<=x)(h:x<n):i64.wrap (x+1)=x+1:=w64 (by omega)
end
noncomputable section
def hP(k:Nat)(c:Cf):HL:=[(k,.view 1 (fun _=>c.nP) [.cs (k+1) 3 (fun _ e=>e) (fun _ e=>c.lenP e) (fun _ e=>c.FC e)]),(k+1,.view c.nP c.lenP [.ci .i64 fun i e=>c.iO i e,.ci .i64 fun i e=>c.iA i e,.ci .i64 fun i e=>c.iB i e])]
def preP(c:Cf):Prop:=c.nP<=1000000/\∀i,i<c.nP->c.lenP i<=1000000
def progOf(H:HL)(k:Nat)(nP rc:NV):Option (Nat×Cf):=match find k H with
 | some b=>match Ck.colsOf b with
  | [.cs kF _ _ ln cp]=>match find kF H with
   | some bF=>match Ck.colsOf bF with
    | [.ci _ o,.ci _ a,.ci _ b]=>some (kF,⟨0,0,0,0,0,0,0,0,0,nP.v,rc.v,0,0,fun e=>ln 0 e,fun e=>cp 0 e,o,a,b,fun _=>0,fun _=>0,fun _=>0⟩)
    | _=>none
   | none=>none
  | _=>none
 | none=>none
end
section
variable {c d:Cf}
theorem row_le{i j n:Nat}{F:Nat->Nat}(h:n=F j):(if i=j then n else 0)<=F i:=by split<;>simp_all
end
noncomputable section
def preE(c:Cf):Prop:=preP c/\c.nU<=1000000
end
theorem lenP_5{g:Nat->Int}{len:Nat}(hu:U8 len g)(i:Nat):lenP g len i<=5:=(cnt_eq hu _).2
theorem dec_okC0{g:Nat->Int}{len:Nat}(hu:U8 len g)(rc c10:Nat)(FC:Nat->Nat):okC ⟨dW g len,dL g len,dC g len,dT g len,dD g len,dH g len,dB g len,dA g len,dP g len,nP g len,rc,nU g len,c10,fun e=>lenP g len e,fun e=>FC e,fun i e=>cO g len i e,fun i e=>cA g len i e,fun i e=>cB g len i e,fun e=>uP g len e,fun e=>uL g len e,fun e=>uD g len e⟩:=by
 have hW:=dW_r hu;have hL:=dL_r hu;have hC:=dC_r hu;have hCL:=dC_L hu;have hT:=dT_r hu;have hD:=dD_r hu;have hH:=dH_r hu;have hB:=dB_r hu;have hA:=dA_r hu;have hP:=dP_r hu;have hN:=dN_r hu
 have hn:=nP_eq hu
 have hU:=nU_le hu
 refine⟨⟨?_,?_,?_,?_,?_,?_,?_,?_,?_⟩,⟨?_,?_⟩,?_,?_⟩
 all_goals try (simp only;omega)
 ·intro i hi
  refine⟨by have:=lenP_5 hu i;simp only;omega,fun e he=>?_⟩
  simp only[okI,cO,cA,cB]
  generalize pI g len (pS g len i) e=p
  have h0:=za1 (at':=p) (k:=3) hu (by decide)
  have h1:=za1 (at':=p+1) (k:=4) hu (by decide)
  have h2:=za1 (at':=p+1) (k:=dN g len) hu (by omega)
  have h3:=za1 (at':=p+2) (k:=dL g len) hu (by omega)
  unfold iA iB iO
  by_cases a:rd g len p 3=0
  ·left;rw[if_pos a,if_neg (by omega)];omega
  ·by_cases b:rd g len p 3=1
   ·right;left;rw[if_neg a,if_pos b,if_pos b];omega
   ·right;right;rw[if_neg a,if_neg b,if_neg b];omega
 ·intro e he
  have h1:=za1 (at':=pos3 g len e) (k:=dN g len) hu (by omega)
  have h2:=za1 (at':=pos3 g len e+1) (k:=dL g len) hu (by omega)
  have h3:=za1 (at':=pos3 g len e+2) (k:=16) hu (by omega)
  simp only[uP,uL,uD]
  omega
theorem dec_okC{g:Nat->Int}{len:Nat}{d:Cf}(hu:U8 len g)(h:IsDec g len d):okC d:=by
 obtain⟨FC,rc,cu,_,rfl⟩:=h
 exact dec_okC0 hu rc cu FC
open Classical in
theorem pE_zero(c:Cf):∀(k i:Nat),pE c i k=0↔∀j,i<=j->j<i+k->c.lenP j<=32/\∀e,e<c.lenP j->okI c j e
 | 0,i=>⟨fun _ j h1 h2=>by omega,fun _=>rfl⟩
 | k+1,i=>by
  unfold pE
  constructor
  ·intro h
   split at h
   ·cases h
   split at h
   ·cases h
   rename_i h1 h2
   have ih:=(pE_zero c k (i+1)).1 h
   intro j hj hj'
   by_cases e:j=i
   ·subst e
    refine⟨by omega,fun e he=>?_⟩
    rcases em (okI c j e) with g|g
    ·exact g
    ·exact absurd ⟨e,he,g⟩ h2
   ·exact ih j (by omega) (by omega)
  ·intro h
   have h0:=h i (Z _) (by omega)
   rw[if_neg (by omega),if_neg (by rintro⟨e,he,g⟩;exact g (h0.2 e he))]
   exact(pE_zero c k (i+1)).2 fun j h1 h2=>h j (by omega) (by omega)
open Classical in
theorem uE_zero(c:Cf):∀(k i:Nat),uE c i k=0↔∀j,i<=j->j<i+k->(0<=c.uP j/\c.uP j<=(c.nP:Int)-1)/\(0<=c.uL j/\c.uL j<=c.L-1)/\(0<=c.uD j/\c.uD j<=16777215)
 | 0,i=>⟨fun _ j h1 h2=>by omega,fun _=>rfl⟩
 | k+1,i=>by
  unfold uE
  constructor
  ·intro h
   split at h
   ·cases h
   split at h
   ·cases h
   rename_i h1 h2
   have h1:=Classical.not_not.1 h1
   have h2:=Classical.not_not.1 h2
   have ih:=(uE_zero c k (i+1)).1 h
   intro j hj hj'
   by_cases e:j=i
   ·subst e;exact⟨h1,h2⟩
   ·exact ih j (by omega) (by omega)
  ·intro h
   have h0:=h i (Z _) (by omega)
   rw[if_neg (fun g=>g h0.1),if_neg (fun g=>g h0.2)]
   exact(uE_zero c k (i+1)).2 fun j h1 h2=>h j (by omega) (by omega)
open Classical in
theorem err_zero(c:Cf):errE c=0↔okC c:=by
 unfold errE zcq subE
 by_cases h1:okN c
 ·rw[if_neg (fun g=>g h1)]
  by_cases h2:1<=c.nP/\c.nP<=32
  ·have e2:(if ¬(1<=c.nP/\c.nP<=32) then(2:Int) else pE c 0 c.nP)=pE c 0 c.nP:=if_neg (fun g=>g h2)
   rw[e2]
   by_cases h3:pE c 0 c.nP=0
   ·have e3:∀z:Int,(if pE c 0 c.nP≠0 then pE c 0 c.nP else z)=z:=fun z=>if_neg (fun g=>g h3)
    rw[e3]
    have h3':=fun i (hi:i<c.nP)=>(pE_zero c _ _).1 h3 i (Nat.zero_le _) (by omega)
    by_cases h4:64<c.nU
    ·rw[if_pos h4]
     exact⟨fun h=>by omega,fun h=>by have:=h.2.2.1;omega⟩
    ·rw[if_neg h4]
     exact⟨fun h=>⟨h1,⟨h2,h3'⟩,by omega,fun e he=>(uE_zero c _ _).1 h e (Nat.zero_le _) (by omega)⟩,fun h=>(uE_zero c _ _).2 fun j _ hj=>h.2.2.2 j (by omega)⟩
   ·have e3:∀z:Int,(if pE c 0 c.nP≠0 then pE c 0 c.nP else z)=pE c 0 c.nP:=fun z=>if_pos h3
    rw[e3]
    exact⟨fun h=>absurd h h3,fun h=>absurd ((pE_zero c _ _).2 fun j _ hj=>h.2.1.2 j (by omega)) h3⟩
  ·have e2:(if ¬(1<=c.nP/\c.nP<=32) then(2:Int) else pE c 0 c.nP)=2:=if_pos h2
   rw[e2]
   exact⟨fun h=>by simp at h,fun h=>absurd h.2.1.1 h2⟩
 ·rw[if_pos h1]
  exact⟨fun h=>by omega,fun h=>absurd h.1 h1⟩
theorem dec_err{g:Nat->Int}{len:Nat}{d:Cf}(hu:U8 len g)(h:IsDec g len d):errE d=0:=(err_zero d).2 (dec_okC hu h)
noncomputable section
end
noncomputable section
def R3.cols(r:R3):List Col:=[.ci .i64 fun _ e=>r.o r.i e,.ci .i64 fun _ e=>r.a r.i e,.ci .i64 fun _ e=>r.b r.i e]
def keyC(s:SV):Nat:=match s with
 | .c x=>Sx.keyOf x
 | _=>0
def verCl3(f:FuncId)(t:TypeId)(r:R3):V:=verF P con0 3 3 f [(1000000,.nilTmpO 2 t 3 r.cols)] .nil [r.arg 0] ⟨[(0,r.blk)],1,fun _=>True⟩
 (finV 1 2 (fun s H=>capOf (keyC s) H.h) (fun s H=>[keyC s]) (fun c=>r.n<=c) (fun c=>.c (slK 1 3 r.n c)) (fun c=>[(1,.row t c r.n r.cols)]))
def verClI(r:R3):V:=verCl3 61 133 r
def verClU(r:R3):V:=verCl3 62 135 r
def rowPs(k:Nat)(c:Cf)(cp:Nat):Blk:=.row 131 cp c.nP [.cs k 3 (fun _ e=>e) (fun _ e=>c.lenP e) (fun _ e=>c.FC e)]
def verClP(c:Cf):V:=verF P con0 3 3 60 [(1000000,.nilTmpO 2 131 1 [.cs 1 3 (fun _ e=>e) (fun _ e=>c.lenP e) (fun _ e=>c.FC e)])] .nil [.c (slK 0 1 c.nP c.rc)] ⟨hP 0 c,2,fun _=>True⟩
 (finV 2 3 (fun s H=>capOf (keyC s) H.h) (fun s H=>[keyC s]) (fun cp=>c.nP<=cp) (fun cp=>.c (slK 2 1 c.nP cp)) (fun cp=>[(2,rowPs 1 c cp)]))
def conCl3(t:TypeId):List SV->Hp->Out (SV×Hp):=fun args H=>match args with
 | [.c (.slc k i _ _ n cap)]=>fN k fun k=>match row3 H.h k i n cap with
  | some r=>useP [k] 1 [r.arg 0] [(0,r.blk)] (.need (r.n<=1000000) (.any Nat (fun c=>r.n<=c) fun c=>.leaf (.c (slK 1 3 r.n c),⟨[(1,.row t c r.n r.cols)],2,fun _=>True⟩))) args H
  | none=>.bad 430
 | _=>.bad 431
def conClP:List SV->Hp->Out (SV×Hp):=fun args H=>match args with
 | [.c (.slc k _ _ _ n cap)]=>fN k fun k=>match progOf H.h k n cap with
  | some (kF,c)=>fN kF fun kF=>useP [k,kF] 2 [.c (slK 0 1 c.nP c.rc)] (hP 0 c) (.need (c.nP<=1000000) (.any Nat (fun cp=>c.nP<=cp) fun cp=>.leaf (.c (slK 2 1 c.nP cp),⟨[(2,rowPs 1 c cp)],3,fun _=>True⟩))) args H
  | none=>.bad 430
 | _=>.bad 431
end
end Go.Proofs.YtabiechfpefjhaaGreat.Vc
namespace Go.Proofs.YtabiechfpefjhaaGreat.Vc
open Go Go.RowKit Go.ChangeShapes Go.WideShapes Go.Deep Sx Cn Dc Ck
section
variable {H:Type} {enc:TypeId×Value->H} {P:Program} {w:World}
structure IsRows (m:Nat) (w:World) (a:Option Addr) (len cap:Nat) (g:Nat->Nat->Int):Prop where
 spot:∀x,a=some x->x.spot=none
 le:len<=cap
 max:cap<=maxLen
 cells:∀e,e<len->∃x,a=some x/\∀f,f<m->w.cell? (x.add (e*m+f))=some (.int .i64 (g f e))
 fits:∀e f,e<len->f<m->(Lit.int .i64 (g f e)).wf=true
end
structure R5 where
 n:Nat
 cap:Nat
 f:Nat->Nat->Int
noncomputable section
def cols5(f:Nat->Nat->Int):List Col:=[.ci .i64 fun _ e=>f 0 e,.ci .i64 fun _ e=>f 1 e,.ci .i64 fun _ e=>f 2 e,.ci .i64 fun _ e=>f 3 e,.ci .i64 fun _ e=>f 4 e]
def R5.arg(r:R5)(k:Nat):SV:=.c (slK k 5 r.n r.cap)
def R5.blk(r:R5):Blk:=.view 1 (fun _=>r.n) (cols5 r.f)
end
end Go.Proofs.YtabiechfpefjhaaGreat.Vc
namespace Go.Proofs.YtabiechfpefjhaaGreat.Vc
open Go Go.RowKit Sx Cn Dc Ck
noncomputable section
def freshC:List Col:=[.ci .i64 fun _ _=>0,.ci .i64 fun _ _=>-1,.ci .i64 fun _ _=>0,.ci .i64 fun _ _=>0,.ci .i64 fun _ _=>-1,.cc .nils,.cb fun _ _=>false]
def freshB(n c:Nat):Blk:=.row 109 c n freshC
end
def okY(c:Cf):Prop:=(1<=c.W/\c.W<=16)/\(1<=c.L/\c.L<=64)/\(1<=c.C/\c.C<=8)/\(1<=c.T/\c.T<=256)/\(1<=c.D/\c.D<=64)/\(1<=c.H/\c.H<=64)
theorem okN_Y{c:Cf}(h:okN c):okY c:=by unfold okN at h;unfold okY;omega
def lS(c:Cf):Int:=4+c.H
def lE(c:Cf):Int:=4+c.H+c.C
def lB(c:Cf):Int:=4+c.H+c.C+c.W
def lQ(c:Cf):Int:=4+c.H+c.C+c.W+c.W
def lT(c:Cf):Int:=lQ c+c.W*c.L*(2+c.D)
noncomputable section
def fin1(n:Nat)(sv:SV):SV->Hp->V:=finV (X:=Unit) n n (fun _ _=>some ()) (fun _ _=>[]) (fun _=>True) (fun _=>sv) (fun _=>[])
end
theorem mulB{a b A B:Int}(h0:0<=a)(h1:a<=A)(h2:0<=b)(h3:b<=B):0<=a*b/\a*b<=A*B:=
 ⟨Int.mul_nonneg h0 h2,Int.mul_le_mul h1 h3 h2 (by omega)⟩
section
variable {c:Cf} {w v:Int}
structure WY (c:Cf):Prop where
 w1:i64.wrap (4+c.H)=4+c.H
 w2:i64.wrap (4+c.H+c.C)=4+c.H+c.C
 w3:i64.wrap (2*c.W)=2*c.W
 w4:i64.wrap (4+c.H+c.C+2*c.W)=lQ c
 w5:i64.wrap (c.W*c.L)=c.W*c.L
 w6:i64.wrap (2+c.D)=2+c.D
 w7:i64.wrap (c.W*c.L*(2+c.D))=c.W*c.L*(2+c.D)
 w8:i64.wrap (lQ c+c.W*c.L*(2+c.D))=lT c
 w9:i64.wrap (c.L*(2+c.D))=c.L*(2+c.D)
 w10:i64.wrap (4+c.H+c.C+c.W)=4+c.H+c.C+c.W
 w11:i64.wrap (4+c.H+c.C+c.W+c.W)=lQ c
 q:0<=lQ c/\lQ c<=200
 t:0<=lT c/\lT c<=70000
 y:0<=c.L*(2+c.D)/\c.L*(2+c.D)<=4224
theorem wy(h:okY c):WY c:=by
 obtain⟨h1,h2,h3,h4,h5,h6⟩:=h
 have hX:=mulB (a:=c.W) (b:=c.L) (A:=16) (B:=64) (by omega) h1.2 (by omega) h2.2
 have hY:=mulB (a:=c.W*c.L) (b:=2+c.D) (A:=1024) (B:=66) hX.1 (by omega) (by omega) (by omega)
 have hZ:=mulB (a:=c.L) (b:=2+c.D) (A:=64) (B:=66) (by omega) (by omega) (by omega) (by omega)
 have q:0<=lQ c/\lQ c<=200:=by unfold lQ;omega
 have e:lQ c=4+c.H+c.C+2*c.W:=by unfold lQ;omega
 refine⟨w64 (by omega),w64 (by omega),w64 (by omega),?_,w64 (by omega),w64 (by omega),w64 (by omega),?_,w64 (by omega),w64 (by omega),w64 (by omega),q,?_,hZ⟩
 ·rw[e];exact w64 (by omega)
 ·unfold lT;exact w64 (by omega)
 ·unfold lT;omega
end
noncomputable section
end
noncomputable section
def layN(c:Cf)(x:Int):Int:=if errE c=0 then x else 0
def layV(c:Cf):SV:=.t [.a [.iv .i64 (layN c c.W),.iv .i64 (layN c c.L),.iv .i64 (layN c c.C),.iv .i64 (layN c c.T),.iv .i64 (layN c c.D),.iv .i64 (layN c c.H),.iv .i64 (layN c (lS c)),.iv .i64 (layN c (lE c)),.iv .i64 (layN c (lB c)),.iv .i64 (layN c (lQ c)),.iv .i64 (layN c (lT c))],.c (.iv .i64 (errE c))]
def conNw:Con:=Con.add 57 conErr con3
theorem conNw_ok:zaj P conNw:=.add conErr58 con3_ok
def verNew(c:Cf):V:=verF P conNw 3 3 36 [] .nil [argC c] ⟨hC c,3,fun _=>True⟩ (finV (X:=Unit) 3 3 (fun _ _=>some ()) (fun _ _=>[]) (fun _=>True) (fun _=>layV c) (fun _=>[]))
end
theorem verNew_eq(c:Cf):verNew c=
 lr31 c (lr26 c (lr1 c (lr13 c (lr11 c (lr4 c (lr3 c (U True (zj (errE c != O 0) (U True (U (O 0=layN c c.W) (U (O 0=layN c c.L) (U (O 0=layN c c.C) (U (O 0=layN c c.T) (U (O 0=layN c c.D) (U (O 0=layN c c.H) (U (O 0=layN c (lS c)) (U (O 0=layN c (lE c)) (U (O 0=layN c (lB c)) (U (O 0=layN c (lQ c)) (U (O 0=layN c (lT c)) (U (errE c=errE c) zw))))))))))))) (U True (U (c.W=layN c c.W) (U (c.L=layN c c.L) (U (c.C=layN c c.C) (U (c.T=layN c c.T) (U (c.D=layN c c.D) (U (c.H=layN c c.H) (U (i64.wrap (O 4+c.H)=layN c (lS c)) (U (i64.wrap (i64.wrap (O 4+c.H)+c.C)=layN c (lE c)) (U (i64.wrap (i64.wrap (i64.wrap (O 4+c.H)+c.C)+c.W)=layN c (lB c)) (U (i64.wrap (i64.wrap (i64.wrap (i64.wrap (O 4+c.H)+c.C)+c.W)+c.W)=layN c (lQ c)) (U (i64.wrap (i64.wrap (i64.wrap (i64.wrap (i64.wrap (O 4+c.H)+c.C)+c.W)+c.W)+i64.wrap (i64.wrap (c.W*c.L)*i64.wrap (O 2+c.D)))=layN c (lT c)) (U (O 0=errE c) zw))))))))))))))))))))):=by kernel_rfl
theorem layN_0{c:Cf}{x:Int}(h:¬errE c=0):0=layN c x:=by unfold layN;rw[if_neg h]
theorem layN_1{c:Cf}{x:Int}(h:errE c=0):x=layN c x:=by unfold layN;rw[if_pos h]
theorem okY_of{c:Cf}(h:errE c=0):okY c:=okN_Y ((err_zero c).1 h).1
theorem vhNew(c:Cf)(_:True):zad (verNew c):=by
 constructor
 rw[verNew_eq]
 simp only[V.holds,zz,decide_eq_true_eq,decide_eq_false_iff_not,z7,za,bne_iff_ne,bne_eq_false_iff_eq,ge_iff_le,true_and,and_true,eq_self,forall_const,true_implies,implies_true,Z,Int.cast_ofNat_Int,Int.natCast_zero,Nat.zero_lt_one,z8,cf_eta,ne_eq]
 refine⟨fun h=>?_,fun h=>?_⟩
 ·have z:∀x,0=layN c x:=fun x=>layN_0 h
  exact⟨z _,z _,z _,z _,z _,z _,z _,z _,z _,z _,z _⟩
 ·have W:=wy (okY_of h)
  have z:∀x,x=layN c x:=fun x=>layN_1 h
  simp only[W.w1,W.w2,W.w5,W.w6,W.w7,W.w8,W.w10,W.w11]
  exact⟨z _,z _,z _,z _,z _,z _,z _,z _,z _,z _,z _,h.symm⟩
noncomputable section
def conNew:List SV->Hp->Out (SV×Hp):=zex fun c=>.need True (.leaf (layV c,⟨[],3,fun _=>True⟩))
theorem conNew_ok:zab P 36 conNew:=zcu fun c=>zai conNw_ok (vhNew c)
end
abbrev lr27(k:V):V:=U (0=0) (U (0=0) k)
abbrev lr29(a0:R3)(k:Nat->V):V:=U (0+a0.n<=9223372036854775807/\(0+a0.n)*24<=140737488355328) (V.any Nat (fun (x:Nat)=>0+a0.n<=x) fun v0=>k v0)
abbrev lr36(a0:Nat)(k:V):V:=U (a0=a0) (U (a0=a0) k)
abbrev lr38(a0:R3)(k:V):V:=U (∀(e:Nat),e<a0.n->a0.o a0.i (0+e)=a0.o a0.i e) (U (∀(e:Nat),e<a0.n->a0.a a0.i (0+e)=a0.a a0.i e) k)
abbrev lr44(a0:R3)(k:V):V:=U (0+a0.n<=if a0.i<a0.i+1 then if a0.i=a0.i then a0.n else 0 else 0) (U (0=0) k)
abbrev lr46(a0:R3)(k:V):V:=U (∀(e:Nat),e<a0.n->a0.o a0.i e=a0.o a0.i e) (U (∀(e:Nat),e<a0.n->a0.a a0.i e=a0.a a0.i e) k)
abbrev lrs0(y0:Bool)(r:R3):V:=zj y0 (U (r.n<=0) (U (0=r.n) (lr27 (U (r.n<=0) (lr46 r (U (∀(e:Nat),e<r.n->r.b r.i e=r.b r.i e) zw)))))) (lr44 r (lr29 r fun y1=>U (r.n<=y1) (U (0+r.n=r.n) (lr36 y1 (U (r.n<=0+r.n) (lr38 r (U (∀(e:Nat),e<r.n->r.b r.i (0+e)=r.b r.i e) zw)))))))
abbrev lr24(a0:R3)(k:Bool->V):V:=U (∃(x:Bool),x=true->¬(a0.i<a0.i+1/\0<if a0.i=a0.i then a0.n else 0)) (V.any Bool (fun (b:Bool)=>b=true->¬(a0.i<a0.i+1/\0<if a0.i=a0.i then a0.n else 0)) fun v0=>k v0)
theorem verClI_eq(r:R3):verClI r=
 lr24 r fun y0=>lrs0 y0 r:=by kernel_rfl
theorem verClU_eq(r:R3):verClU r=
 lr24 r fun y0=>lrs0 y0 r:=by kernel_rfl
abbrev lr9(a0:Cf)(k:V):V:=U (∀(e:Nat),e<a0.nP->e=e) (U (∀(e:Nat),e<a0.nP->a0.lenP e=a0.lenP e) k)
abbrev lr28(a0:Cf)(k:V):V:=lr9 a0 (U (∀(e:Nat),e<a0.nP->a0.FC e=a0.FC e) k)
theorem verClP_eq(c:Cf):verClP c=
 U (∃(x:Bool),x=true->¬(0<1/\0<c.nP)) (V.any Bool (fun (b:Bool)=>b=true->¬(0<1/\0<c.nP)) fun y0=>zj y0 (U (c.nP<=0) (U (0=c.nP) (lr27 (U (c.nP<=0) (lr28 c zw))))) (U (0+c.nP<=c.nP) (U (0=0) (U (0+c.nP<=9223372036854775807/\(0+c.nP)*24<=140737488355328) (V.any Nat (fun (x:Nat)=>0+c.nP<=x) fun y1=>U (c.nP<=y1) (U (0+c.nP=c.nP) (lr36 y1 (U (c.nP<=0+c.nP) (U (∀(e:Nat),e<c.nP->0+e=e) (U (∀(e:Nat),e<c.nP->c.lenP (0+e)=c.lenP e) (U (∀(e:Nat),e<c.nP->c.FC (0+e)=c.FC e) zw))))))))))):=by kernel_rfl
theorem vhClI{r:R3}(h:r.n<=1000000):zad (verClI r)/\zad (verClU r):=by
 constructor
 all_goals
  constructor
  first|rw[verClI_eq]|rw[verClU_eq]
  simp only[V.holds,zz,decide_eq_true_eq,decide_eq_false_iff_not,z7,za,bne_iff_ne,bne_eq_false_iff_eq,beq_iff_eq,beq_eq_false_iff_ne,ne_eq,true_and,and_true,forall_const,true_implies,implies_true,z8,Nat.sub_zero,Nat.lt_add_one,Nat.zero_lt_one,Int.natCast_zero,Int.natCast_one,Int.cast_ofNat_Int,gt_iff_lt,and_self,eq_self,Z,if_true]
  repeat' first|exact True.intro|with_reducible apply And.intro|intro _
  all_goals first
   | omega
   | exact⟨false,by simp⟩
   | (simp_all<;>omega)
theorem vhClP{c:Cf}(h:c.nP<=1000000):zad (verClP c):=by
 constructor
 rw[verClP_eq]
 simp only[V.holds,zz,decide_eq_true_eq,decide_eq_false_iff_not,z7,za,bne_iff_ne,bne_eq_false_iff_eq,beq_iff_eq,beq_eq_false_iff_ne,ne_eq,true_and,and_true,forall_const,true_implies,implies_true,z8,Nat.sub_zero,Nat.lt_add_one,Nat.zero_lt_one,Int.natCast_zero,Int.natCast_one,Int.cast_ofNat_Int,gt_iff_lt,and_self,eq_self,Z,if_true]
 repeat' first|exact True.intro|with_reducible apply And.intro|intro _
 all_goals first
  | omega
  | exact⟨false,by simp⟩
  | (simp_all<;>omega)
theorem conClI_ok:zab P 61 (conCl3 133):=zac fun args H=>by
 unfold conCl3
 simp only[fN_eq]
 repeat' split
 all_goals first
  | exact .inl ⟨_,rfl⟩
  | exact .inr ⟨_,_,_,_,_,rfl,zae zaj.nil fun h=>(show zad (verCl3 61 133 _) from(vhClI h).1)⟩
theorem conClU_ok:zab P 62 (conCl3 135):=zac fun args H=>by
 unfold conCl3
 simp only[fN_eq]
 repeat' split
 all_goals first
  | exact .inl ⟨_,rfl⟩
  | exact .inr ⟨_,_,_,_,_,rfl,zae zaj.nil fun h=>(show zad (verCl3 62 135 _) from(vhClI h).2)⟩
theorem conClP_ok:zab P 60 conClP:=zac fun args H=>by
 unfold conClP
 simp only[fN_eq]
 repeat' split
 all_goals first
  | exact .inl ⟨_,rfl⟩
  | exact .inr ⟨_,_,_,_,_,rfl,zae zaj.nil vhClP⟩
noncomputable section
def conCl:Con:=Con.add 61 (conCl3 133) (Con.add 62 (conCl3 135) (Con.add 60 conClP con3))
theorem conCl_ok:zaj P conCl:=.add conClI_ok (.add conClU_ok (.add conClP_ok con3_ok))
def clOf(c:Cf)(FC:Nat->Nat)(rc cu:Nat):Cf:=⟨c.W,c.L,c.C,c.T,c.D,c.H,c.B,c.A,c.P,c.nP,rc,c.nU,cu,fun e=>c.lenP e,fun e=>FC e,fun i e=>c.iO i e,fun i e=>c.iA i e,fun i e=>c.iB i e,fun e=>c.uP e,fun e=>c.uL e,fun e=>c.uD e⟩
def IsCl(c d:Cf):Prop:=∃FC rc cu,((∀e,e<c.nP->c.lenP e<=FC e)/\c.nP<=rc/\c.nU<=cu)/\d=clOf c FC rc cu
def pkC(s:St):Nat:=cellK (tkey 1 s) 9 s.H.h
def famLt(k:Nat)(H:Hp):Nat:=match find k H.h with
 | some (.row _ _ _ [.lt _ (.cs F _ _ _ _) _])=>F
 | _=>H.nxt-1
def fkC(s:St):Nat:=famLt (pkC s) s.H
def capsLt(k:Nat)(H:HL):Option (Nat->Nat):=match find k H with
 | some (.row _ _ _ [.lt _ (.cs _ _ _ _ c) _])=>some fun e=>c 0 e
 | some _=>some fun _=>0
 | none=>none
section
variable (c:Cf)
def colsC:List Col:=[.ci .i64 fun i e=>c.iO i e,.ci .i64 fun i e=>c.iA i e,.ci .i64 fun i e=>c.iB i e]
def fC(s:St):Option (LA (Int×(Nat->Nat))):=match capOf (pkC s) s.H.h with
 | some cp=>some ⟨[(pkC,true),(fkC,false)],fun x=>[.row 131 cp c.nP [.lt x.1.toNat (.cs (fkC s) 3 (fun _ e=>e) (fun _ e=>c.lenP e) (fun _ e=>x.2 e)) (.cs 2 3 (fun _ e=>e) (fun _ e=>c.lenP e) (fun _ e=>c.FC e))],.fam true 133 (gd x.1.toNat x.2) (gd x.1.toNat c.lenP) (colsC c)],
  [11],fun x=>[iv x.1],fun s=>match intT 11 s,capsLt (pkC s) s.H.h with|some i,some F=>some (i,F)|_,_=>none,
  fun x=>0<=x.1/\x.1<=c.nP/\∀e,e<x.1.toNat->c.lenP e<=x.2 e,fun x=>c.nP-x.1.toNat⟩
 | none=>none
def rdCl(s:SV)(H:Hp):Option Cf:=match slKs s with
 | some (kr,_,rc,ku,_,cu)=>(capsLt kr H.h).map fun F=>clOf c F rc cu
 | none=>none
def LCl(s:SV)(H:Hp):List Nat:=match slKs s with
 | some (kr,_,_,ku,_,_)=>[kr,ku,famLt kr H]
 | none=>[]
def verClone:V:=verF P conCl 3 4 39 [(6,.joinLt pkC 0)] (.loop _ [.newFam 133 (colsC c)] (fC c) .nil .nil) [argC c] ⟨hC c,3,fun _=>True⟩ (finV 3 6 (rdCl c) LCl (IsCl c) (argCm 3) (hOwn 3))
end
end
abbrev lr12(a0:Cf)(a1:Int×(Nat->Nat))(a2:Nat)(k:V):V:=U (∀(i e:Nat),(i=0/\e<a0.nP)/\e<0+a1.fst.toNat+1->(if i=0/\e=0+a1.fst.toNat then a0.lenP (0+a1.fst.toNat) else a0.lenP e)=a0.lenP e) (U (∀(i e:Nat),(i=0/\e<a0.nP)/\e<0+a1.fst.toNat+1->(if i=0/\e=0+a1.fst.toNat then a2 else a1.snd e)=if 0=0/\e=0+a1.fst.toNat then a2 else a1.snd e) k)
abbrev lr14(a0:Int×(Nat->Nat))(a1:Cf)(k:V):V:=U (∀(i e:Nat),(i<0+a0.fst.toNat+1/\e<if i=0+a0.fst.toNat then a1.lenP (0+a0.fst.toNat) else 0)->a1.iO i e=a1.iO i e) (U (∀(i e:Nat),(i<0+a0.fst.toNat+1/\e<if i=0+a0.fst.toNat then a1.lenP (0+a0.fst.toNat) else 0)->a1.iA i e=a1.iA i e) k)
abbrev lr15(a0:Int×(Nat->Nat))(a1:Cf)(k:V):V:=U (O 0<=a0.fst/\a0.fst<(↑a1.nP:Int)) (U (0<1/\0+a0.fst.toNat<a1.nP) k)
abbrev lr2(a0:Int×(Nat->Nat))(a1:Nat)(a2:Cf)(k:V):V:=U (∀(i:Nat),(if i=0+a0.fst.toNat then a1 else gd a0.fst.toNat a0.snd i)=gd (i64.wrap (a0.fst+O 1)).toNat (fun (e:Nat)=>if 0=0/\e=0+a0.fst.toNat then a1 else a0.snd e) i\/gd (i64.wrap (a0.fst+O 1)).toNat (fun (e:Nat)=>if 0=0/\e=0+a0.fst.toNat then a1 else a0.snd e) i=0) (U (∀(i:Nat),gd (i64.wrap (a0.fst+O 1)).toNat a2.lenP i<=gd (i64.wrap (a0.fst+O 1)).toNat (fun (e:Nat)=>if 0=0/\e=0+a0.fst.toNat then a1 else a0.snd e) i/\gd (i64.wrap (a0.fst+O 1)).toNat a2.lenP i<=if i=0+a0.fst.toNat then a2.lenP (0+a0.fst.toNat) else gd a0.fst.toNat a2.lenP i) k)
abbrev lr19(a0:Int×(Nat->Nat))(a1:Cf)(k:V):V:=U (∀(i e:Nat),(i<0+a0.fst.toNat+1/\e<if i=0+a0.fst.toNat then a1.lenP (0+a0.fst.toNat) else 0)->a1.iB i e=a1.iB i e) (U (a1.lenP (0+a0.fst.toNat)<=1000000) k)
abbrev lr20(a0:Cf)(a1:Int×(Nat->Nat))(k:V):V:=U (∀(i e:Nat),(i=0/\e<a0.nP)/\¬e<0+a1.fst.toNat+1->a0.FC e=a0.FC e) (U (∀(i e:Nat),(i=0/\e<a0.nP)/\e<0+a1.fst.toNat+1->e=e) k)
abbrev lr21(a0:Int×(Nat->Nat))(a1:Cf)(k:V):V:=U (∀(i e:Nat),e<gd (i64.wrap (a0.fst+O 1)).toNat a1.lenP i->(if i=0+a0.fst.toNat then a1.iO (0+a0.fst.toNat) e else a1.iO i e)=a1.iO i e) (U (∀(i e:Nat),e<gd (i64.wrap (a0.fst+O 1)).toNat a1.lenP i->(if i=0+a0.fst.toNat then a1.iA (0+a0.fst.toNat) e else a1.iA i e)=a1.iA i e) (U (∀(i e:Nat),e<gd (i64.wrap (a0.fst+O 1)).toNat a1.lenP i->(if i=0+a0.fst.toNat then a1.iB (0+a0.fst.toNat) e else a1.iB i e)=a1.iB i e) k))
abbrev lr22(a0:Cf)(a1:Int×(Nat->Nat))(k:V):V:=U (a0.nP-(i64.wrap (a1.fst+O 1)).toNat<a0.nP-a1.fst.toNat) (U (i64.wrap (a1.fst+O 1)=i64.wrap (a1.fst+O 1)) k)
abbrev lr37(a0:Cf)(a1:Int×(Nat->Nat))(k:Nat->V):V:=U (∃(x:Nat),a0.lenP (0+a1.fst.toNat)<=x) (V.any Nat (fun (c_1:Nat)=>a0.lenP (0+a1.fst.toNat)<=c_1) fun v0=>k v0)
abbrev lr39(a0:Nat)(a1:Cf)(k:V):V:=U (a0=a0) (U (a1.nP<=a1.nP) k)
abbrev lr41(a0:Int×(Nat->Nat))(a1:Cf)(k:V):V:=U (0+a0.fst.toNat+1=(i64.wrap (a0.fst+O 1)).toNat) (U (∀(i e:Nat),(i=0/\e<a1.nP)/\¬e<0+a0.fst.toNat+1->e=e) (U (∀(i e:Nat),(i=0/\e<a1.nP)/\¬e<0+a0.fst.toNat+1->a1.lenP e=a1.lenP e) k))
abbrev lr5(a0:Int×(Nat->Nat))(a1:Cf)(a2:Nat)(k:V):V:=U (True/\a0.fst.toNat=0+a0.fst.toNat/\(∀(i e:Nat),i=0/\e<a1.nP->i=0)/\∀(e:Nat),e<0+a0.fst.toNat->e≠0+a0.fst.toNat) (U (O 0<=i64.wrap (a0.fst+O 1)/\i64.wrap (a0.fst+O 1)<=(↑a1.nP:Int)/\∀(e:Nat),e<(i64.wrap (a0.fst+O 1)).toNat->a1.lenP e<=if 0=0/\e=0+a0.fst.toNat then a2 else a0.snd e) k)
abbrev lrs1(y1:Int×(Nat->Nat))(c:Cf)(y0:Nat):V:=lr14 y1 c (lr19 y1 c (lr37 c y1 fun y2=>lr15 y1 c (U (0+y1.fst.toNat<c.nP) (lr5 y1 c y2 (lr22 c y1 (lr39 y0 c (lr41 y1 c (lr20 c y1 (lr12 c y1 y2 (lr2 y1 y2 c (lr21 y1 c zw)))))))))))
abbrev lr32(a0:Cf)(k:V):V:=U (∀(e:Nat),e<a0.nU->a0.uP e=a0.uP e) (U (∀(e:Nat),e<a0.nU->a0.uL e=a0.uL e) k)
abbrev lr42(a0:Int×(Nat->Nat))(a1:Cf)(k:V):V:=U (0+a0.fst.toNat=0+a0.fst.toNat) (U (a1.lenP (0+a0.fst.toNat)=a1.lenP (0+a0.fst.toNat)) k)
abbrev lr45(a0:Cf)(k:V):V:=U (∀(i e:Nat),e<gd a0.nP a0.lenP i->a0.iO i e=a0.iO i e) (U (∀(i e:Nat),e<gd a0.nP a0.lenP i->a0.iA i e=a0.iA i e) (U (∀(i e:Nat),e<gd a0.nP a0.lenP i->a0.iB i e=a0.iB i e) k))
theorem verClone_eq(c:Cf):verClone c=
 lr7 c (lr26 c (lr1 c (lr4 c (lr3 c (U (c.nP<=1000000) (U (∃(x:Nat),c.nP<=x) (V.any Nat (fun (cp:Nat)=>c.nP<=cp) fun y0=>U (O 0<=O 0/\O 0<=(↑c.nP:Int)/\∀(e:Nat),e<0->c.lenP e<=0) (U (O 0=O 0) (lr39 y0 c (U (∀(e:Nat),e<c.nP->¬e<0) (lr28 c (U (∀(i:Nat),0=gd 0 (fun (x:Nat)=>0) i\/gd 0 (fun (x:Nat)=>0) i=0) (U (∀(i:Nat),gd 0 c.lenP i<=gd 0 (fun (x:Nat)=>0) i/\gd 0 c.lenP i<=0) (U (∀(i e:Nat),e<gd 0 c.lenP i->c.iO i e=c.iO i e) (U (∀(i e:Nat),e<gd 0 c.lenP i->c.iA i e=c.iA i e) (U (∀(i e:Nat),e<gd 0 c.lenP i->c.iB i e=c.iB i e) (V.any (Int×(Nat->Nat)) (fun (x:Int×(Nat->Nat))=>O 0<=x.fst/\x.fst<=(↑c.nP:Int)/\∀(e:Nat),e<x.fst.toNat->c.lenP e<=x.snd e) fun y1=>zj (decide (y1.fst<(↑c.nP:Int))) (lr33 (lr15 y1 c (U (0<1/\0+y1.fst.toNat<c.nP) (zj (decide (0+y1.fst.toNat<y1.fst.toNat)) (lr42 y1 c (U (y1.snd (0+y1.fst.toNat)=y1.snd (0+y1.fst.toNat)) (U (∀(i:Nat),i<0+y1.fst.toNat+1->(if i=0+y1.fst.toNat then c.lenP (0+y1.fst.toNat) else 0)<=gd y1.fst.toNat c.lenP i/\(if i=0+y1.fst.toNat then c.lenP (0+y1.fst.toNat) else 0)<=gd y1.fst.toNat y1.snd i) (lrs1 y1 c y0)))) (lr42 y1 c (U (c.FC (0+y1.fst.toNat)=c.FC (0+y1.fst.toNat)) (U (0+y1.fst.toNat+1<=c.nP) (U (∀(i:Nat),i<0+y1.fst.toNat+1->(if i=0+y1.fst.toNat then c.lenP (0+y1.fst.toNat) else 0)<=c.lenP i) (lrs1 y1 c y0))))))))) (U (0=0) (lr8 c (U (0+1<=1) (U (∀(i:Nat),i<0+1->(if i=0 then c.nU else 0)<=c.nU) (U (∀(i e:Nat),(i<0+1/\e<if i=0 then c.nU else 0)->c.uP e=c.uP e) (U (∀(i e:Nat),(i<0+1/\e<if i=0 then c.nU else 0)->c.uL e=c.uL e) (U (∀(i e:Nat),(i<0+1/\e<if i=0 then c.nU else 0)->c.uD e=c.uD e) (U (c.nU<=1000000) (U (∃(x:Nat),c.nU<=x) (V.any Nat (fun (c_1:Nat)=>c.nU<=c_1) fun y2=>U (IsCl c (clOf c y1.snd y0 y2)) (lr30 c (U (c.nP=c.nP) (U (y0=y0) (U (c.nU=c.nU) (U (y2=y2) (lr39 y0 c (U (∀(e:Nat),e<c.nP->e<y1.fst.toNat) (lr9 c (U (∀(e:Nat),e<c.nP->y1.snd e=y1.snd e) (U (y2=y2) (U (c.nU<=c.nU) (lr32 c (U (∀(e:Nat),e<c.nU->c.uD e=c.uD e) (U (∀(i:Nat),gd y1.fst.toNat y1.snd i=gd c.nP y1.snd i\/gd c.nP y1.snd i=0) (U (∀(i:Nat),gd c.nP c.lenP i<=gd c.nP y1.snd i/\gd c.nP c.lenP i<=gd y1.fst.toNat c.lenP i) (lr45 c zw))))))))))))))))))))))))))))))))))))))))))):=by kernel_rfl
theorem cl_is{c:Cf}{i x z:Nat}{F:Nat->Nat}(h:i=c.nP)(hF:∀e,e<i->c.lenP e<=F e)(hx:c.nP<=x)(hz:c.nU<=z):IsCl c (clOf c (fun e=>F e) x z):=
 ⟨F,x,z,⟨fun e he=>hF e (by omega),hx,hz⟩,rfl⟩
theorem ite_len{A F:Nat->Nat}{i x e:Nat}(h:∀e,e<i->A e<=F e)(hx:A i<=x)(he:e<i+1):A e<=if e=i then x else F e:=by
 split
 ·subst_vars;exact hx
 ·exact h e (by omega)
theorem gd_ite{A:Nat->Nat}{i j:Nat}:gd (i+1) A j<=if j=i then A i else gd i A j:=by
 by_cases e:j=i
 ·subst e;simp[gd]
 ·rw[if_neg e];unfold gd;by_cases g:j<i
  ·rw[if_pos g,if_pos (by omega)];exact Z _
  ·rw[if_neg (by omega)];exact Nat.zero_le _
theorem vhClone{c:Cf}(h:preE c):zad (verClone c):=by
  constructor
  rw[verClone_eq]
  obtain⟨⟨hp,hl⟩,hu⟩:=h
  simp only[V.holds,zz,decide_eq_true_eq,decide_eq_false_iff_not,ge_iff_le,beq_iff_eq,beq_eq_false_iff_ne,Int.natCast_zero,Int.natCast_one,Int.cast_ofNat_Int,true_and,and_true,eq_self,forall_const,true_implies,implies_true,Z,Nat.zero_lt_one,z8,Int.toNat_natCast,Int.toNat_zero,ne_eq,if_true,and_self,Nat.not_lt_zero,false_implies]
  repeat' first
    | exact True.intro
    | with_reducible apply And.intro
    | (refine Prod.forall.2 fun xi F=>?_
       intro hx
       simp only at hx ⊢
       obtain⟨i,rfl⟩:=Int.eq_ofNat_of_zero_le hx.1
       simp only[Int.toNat_natCast]at hx ⊢
       obtain⟨hx0,hx1,hx2⟩:=hx)
    | intro _
  all_goals try simp(disch:=omega) only[wnat,Int.toNat_natCast]
  all_goals try simp(disch:=omega) only[wnat,Int.toNat_natCast]at *
  all_goals try (first
    | omega
    | exact hl _ (by omega)
    | exact⟨_,Z _⟩
    | exact row_le rfl
    | exact row_le (F:=fun _=>c.nU) rfl
    | (split<;>rfl)
    | ((repeat' split)<;>first|rfl|omega|(subst_vars;rfl)|(subst_vars;assumption)|exact(by assumption:∀e,e<_->_) _ (by omega))
    | exact ite_len ‹_› ‹_› ‹_›
    | exact gd_ite
    | (split<;>first|rfl|(rename_i h;rw[h.2]))
    | exact cl_is (show i=c.nP by omega) hx2 ‹_› ‹_›
    | ((simp only[gd];repeat' split)<;>first|omega|(subst_vars;assumption)|(apply hx2;omega)))
noncomputable section
def outCl(c:Cf):Out (SV×Hp):=.need (preE c) (.any Cf (IsCl c) fun d=>.leaf (argCm 3 d,⟨hOwn 3 d,6,fun _=>True⟩))
def conClone:List SV->Hp->Out (SV×Hp):=zex outCl
theorem conClone_ok:zab P 39 conClone:=zcu fun c=>zae conCl_ok vhClone
end
def ncI(c:Cf):Int:=lT c+5*c.T
def ncN(c:Cf):Nat:=(ncI c).toNat
noncomputable section
def cfL(k0 k1:Nat)(c:Cf):List SC:=[.iv .i64 c.W,.iv .i64 c.L,.iv .i64 c.C,.iv .i64 c.T,.iv .i64 c.D,.iv .i64 c.H,.iv .i64 c.B,.iv .i64 c.A,.iv .i64 c.P,slK k0 1 c.nP c.rc,slK k1 3 c.nU c.cu]
def layL(c:Cf):List SC:=[.iv .i64 c.W,.iv .i64 c.L,.iv .i64 c.C,.iv .i64 c.T,.iv .i64 c.D,.iv .i64 c.H,.iv .i64 (lS c),.iv .i64 (lE c),.iv .i64 (lB c),.iv .i64 (lQ c),.iv .i64 (lT c)]
def envB(k0 k1 km kc kr:Nat)(c:Cf)(rn rc:Nat):Blk:=.own 45 26 ((cfL k0 k1 c++layL c++[.ptr km (.k 0) (.k 0) 0 6,.ptr kc (.k 0) (.k 0) 0 2,slK kr 7 rn rc,.nils]).map some)
def memB(k:Nat)(n cap:Nat)(a0 a1 a2 a3 cnt:Int):Blk:=.own 116 6 ([slK k 1 n cap,.iv .i64 a0,.iv .i64 a1,.iv .u64 a2,.iv .u64 a3,.iv .i64 cnt].map some)
def zeroB(n:Nat):Blk:=.row 48 n n [.ci .u64 fun _ _=>0]
def clkB(now dr:Int):Blk:=.own 89 2 [some (.iv .i64 now),some (.iv .i64 dr)]
def e24(s:St):Nat:=cellKey (tkey 6 s) 24 s.H.h
def fNew(n:Int)(s:St):Option (LA (Int×Nat)):=match find (tkey 6 s) s.H.h with
 | some (.own t size cs)=>some ⟨[(tkey 6,true),(e24,false)],fun x=>[.own t size (cs.set 24 (some (slK (e24 s) 7 x.1.toNat x.2))),freshB x.1.toNat x.2],[29],fun x=>[iv x.1],
  fun s=>match intT 29 s,capOf (e24 s) s.H.h with|some i,some c=>some (i,c)|_,_=>none,fun x=>0<=x.1/\x.1<=n/\x.1.toNat<=x.2,fun x=>(n-x.1).toNat⟩
 | _=>none
def selP:SV->Hp->Bool:=fun s _=>match s with
 | .t [.c .nilp,_]=>false
 | _=>true
def keyF(f:Nat)(k:Nat)(H:HL):Nat:=cellKey k f H
def keysE(k:Nat)(H:HL):List Nat:=[k,keyF 22 k H,keyF 0 (keyF 22 k H) H,keyF 23 k H,keyF 24 k H]++(match find k H with
 | some (.own _ _ cs)=>match (cs[9]?:Option (Option SC)),(cs[10]?:Option (Option SC)) with
  | some (some a),some (some b)=>[Sx.keyOf a,Sx.keyOf b,match find (Sx.keyOf a) H with|some (.row _ _ _ [.cs kF _ _ _ _])=>kF|_=>0]
  | _,_=>[]
 | _=>[])
def cfE(k:Nat)(H:HL):Option Cf:=match find k H with
 | some (.own _ _ cs)=>match cs.take 11 with
  | [some a,some b,some c,some d,some e,some f,some g,some h,some i,some p,some q]=>(rdCf (.a [a,b,c,d,e,f,g,h,i,p,q]) H).map (·.1)
  | _=>none
 | _=>none
def tupK(s:SV):Nat:=match s with|.t (.c x::_)=>Sx.keyOf x|.c x=>Sx.keyOf x|_=>0
def hNew(d:Cf)(rn rc:Nat):HL:=[(3,envB 8 9 4 6 7 d rn rc),(4,memB 5 (ncN d) (ncN d) 0 0 0 0 0),(5,zeroB (ncN d)),(6,clkB 0 0),(7,freshB rn rc)]++hOwn 8 d
def psNewM(c:Cf):PS:=.br (decide (errE c=0)) selP
 (.leaf (Cf×Nat) 11 (fun s H=>match cfE (tupK s) H.h,capOf (keyF 24 (tupK s) H.h) H.h with|some d,some x=>some (d,x)|_,_=>none) (fun s H=>keysE (tupK s) H.h) (fun x=>IsCl c x.1/\c.T.toNat<=x.2)
  (fun _=>.t [.c (.ptr 3 (.k 0) (.k 0) 0 26),.c (.iv .i64 0)]) (fun x=>hNew x.1 c.T.toNat x.2))
 (.one 3 (fun _ _=>[]) (.t [.c .nilp,.c (.iv .i64 (errE c))]) [])
def conNM:Con:=Con.add 36 conNew (Con.add 39 conClone con0)
theorem conNM_ok:zaj P conNM:=.add conNew_ok (.add conClone_ok zaj.nil)
def verNewM(c:Cf):V:=verF P conNM 3 6 18 [] (.loop _ [.nilCell (tkey 6) 24 109 7 fun _=>freshC] (fNew c.T) .nil .nil) [argC c] ⟨hC c,3,fun _=>True⟩ ((psNewM c).fin 3)
end
abbrev lr6(a0:Int×Nat)(k:V):V:=U (∀(e:Nat),e<(i64.wrap (a0.fst+O 1)).toNat->(if 0=0/\e=a0.fst.toNat then O 0 else O 0)=O 0) (U (∀(e:Nat),e<(i64.wrap (a0.fst+O 1)).toNat->(if 0=0/\e=a0.fst.toNat then Int.negSucc 0 else -O 1)=-O 1) k)
abbrev lr16(k:V):V:=U (O 0=O 0) (U (O 0=O 0) k)
abbrev lr18(k:V):V:=U (∀(e:Nat),e<0->O 0=O 0) (U (∀(e:Nat),e<0->-O 1=-O 1) k)
abbrev lr23(a0:Cf)(k:V):V:=U (∀(e:Nat),e<a0.T.toNat->O 0=O 0) (U (∀(e:Nat),e<a0.T.toNat->-O 1=-O 1) k)
abbrev lr35(k:V):V:=U (0<1) (U (0<1) k)
theorem verNewM_eq(c:Cf):verNewM c=
 lr31 c (lr26 c (lr1 c (lr13 c (lr11 c (lr4 c (lr3 c (U True (zj (errE c != O 0) (U (decide (errE c=O 0)=false) (U True (U (errE c=errE c) (zw)))) (U (O 0<=min (max (i64.wrap (layN c (lT c)+i64.wrap (O 5*layN c c.T))) (O 0)) (O 131072)/\min (max (i64.wrap (layN c (lT c)+i64.wrap (O 5*layN c c.T))) (O 0)) (O 131072)<=min (max (i64.wrap (layN c (lT c)+i64.wrap (O 5*layN c c.T))) (O 0)) (O 131072)/\(↑8:Int)*min (max (i64.wrap (layN c (lT c)+i64.wrap (O 5*layN c c.T))) (O 0)) (O 131072)<=O 281474976710656/\min (max (i64.wrap (layN c (lT c)+i64.wrap (O 5*layN c c.T))) (O 0)) (O 131072)<=O 9223372036854775807) (lr33 (lr33 (lr34 (lr31 c (lr26 c (lr1 c (lr13 c (lr11 c (lr4 c (lr3 c (U (preE c) (U (∃(x:Cf),IsCl c x) (V.any Cf (IsCl c) fun y0=>lr33 (lr33 (lr33 (lr34 (U (O 0<=O 0/\O 0<=c.T/\0<=0) (U (O 0=O 0) (lr31 y0 (U (layN c c.W=layN c c.W) (U (layN c c.L=layN c c.L) (U (layN c c.C=layN c c.C) (U (layN c c.T=layN c c.T) (U (layN c c.D=layN c c.D) (U (layN c c.H=layN c c.H) (U (layN c (lS c)=layN c (lS c)) (U (layN c (lE c)=layN c (lE c)) (U (layN c (lB c)=layN c (lB c)) (U (layN c (lQ c)=layN c (lQ c)) (U (layN c (lT c)=layN c (lT c)) (lr27 (U (0=0) (U (0<=0) (lr18 (U (∀(e:Nat),e<0->O 0=O 0) (lr18 (U (∀(e:Nat),e<0->false=false) (V.any (Int×Nat) (fun (x:Int×Nat)=>O 0<=x.fst/\x.fst<=c.T/\x.fst.toNat<=x.snd) fun y1=>zj (decide (y1.fst<c.T)) (lr35 (lr35 (lr35 (U (0<1) (U (y1.fst.toNat<=y1.fst.toNat/\y1.snd=y1.snd) (U (y1.fst.toNat+1<=9223372036854775807/\(y1.fst.toNat+1)*72<=140737488355328) (V.any Nat (fun (x:Nat)=>y1.fst.toNat+1<=x) fun y2=>U (O 0<=i64.wrap (y1.fst+O 1)/\i64.wrap (y1.fst+O 1)<=c.T/\(i64.wrap (y1.fst+O 1)).toNat<=y2) (U ((c.T-i64.wrap (y1.fst+O 1)).toNat<(c.T-y1.fst).toNat) (U (i64.wrap (y1.fst+O 1)=i64.wrap (y1.fst+O 1)) (lr31 y0 (U (layN c c.W=layN c c.W) (U (layN c c.L=layN c c.L) (U (layN c c.C=layN c c.C) (U (layN c c.T=layN c c.T) (U (layN c c.D=layN c c.D) (U (layN c c.H=layN c c.H) (U (layN c (lS c)=layN c (lS c)) (U (layN c (lE c)=layN c (lE c)) (U (layN c (lB c)=layN c (lB c)) (U (layN c (lQ c)=layN c (lQ c)) (U (layN c (lT c)=layN c (lT c)) (U (y1.fst.toNat+1=(i64.wrap (y1.fst+O 1)).toNat) (lr36 y2 (U ((i64.wrap (y1.fst+O 1)).toNat<=y1.fst.toNat+1) (lr6 y1 (U (∀(e:Nat),e<(i64.wrap (y1.fst+O 1)).toNat->(if 0=0/\e=y1.fst.toNat then O 0 else O 0)=O 0) (lr6 y1 (U (∀(e:Nat),e<(i64.wrap (y1.fst+O 1)).toNat->(if 0=0/\e=y1.fst.toNat then false else false)=false) zw)))))))))))))))))))))))))))) (U (decide (errE c=O 0)=true) (U (IsCl c y0/\c.T.toNat<=y1.snd) (U (O 0=O 0) (lr31 y0 (U (layN c c.W=y0.W) (U (layN c c.L=y0.L) (U (layN c c.C=y0.C) (U (layN c c.T=y0.T) (U (layN c c.D=y0.D) (U (layN c c.H=y0.H) (U (layN c (lS c)=lS y0) (U (layN c (lE c)=lE y0) (U (layN c (lB c)=lB y0) (U (layN c (lQ c)=lQ y0) (U (layN c (lT c)=lT y0) (U (y1.fst.toNat=c.T.toNat) (U (y1.snd=y1.snd) (U ((min (max (i64.wrap (layN c (lT c)+i64.wrap (O 5*layN c c.T))) (O 0)) (O 131072)).toNat=ncN y0) (U ((min (max (i64.wrap (layN c (lT c)+i64.wrap (O 5*layN c c.T))) (O 0)) (O 131072)).toNat=ncN y0) (lr16 (lr16 (U (O 0=O 0) (U ((min (max (i64.wrap (layN c (lT c)+i64.wrap (O 5*layN c c.T))) (O 0)) (O 131072)).toNat=ncN y0) (U (ncN y0<=(min (max (i64.wrap (layN c (lT c)+i64.wrap (O 5*layN c c.T))) (O 0)) (O 131072)).toNat) (U (∀(e:Nat),e<ncN y0->O 0=O 0) (lr16 (U (y1.snd=y1.snd) (U (c.T.toNat<=y1.fst.toNat) (lr23 c (U (∀(e:Nat),e<c.T.toNat->O 0=O 0) (lr23 c (U (∀(e:Nat),e<c.T.toNat->false=false) (U (y0.rc=y0.rc) (U (y0.nP<=y0.nP) (lr28 y0 (U (y0.cu=y0.cu) (U (y0.nU<=y0.nU) (lr32 y0 (U (∀(e:Nat),e<y0.nU->y0.uD e=y0.uD e) (U (∀(i:Nat),gd y0.nP y0.FC i=gd y0.nP y0.FC i\/gd y0.nP y0.FC i=0) (U (∀(i:Nat),gd y0.nP y0.lenP i<=gd y0.nP y0.FC i/\gd y0.nP y0.lenP i<=gd y0.nP y0.lenP i) (lr45 y0 zw))))))))))))))))))))))))))))))))))))))))))))))))))))))))))))))))))))))))))))))))))))))))):=by kernel_rfl
theorem nc_bd{c:Cf}(h:okY c):0<=ncI c/\ncI c<=131072:=by
 have W:=(wy h).t
 obtain⟨h1,h2,h3,h4,h5,h6⟩:=h
 unfold ncI
 omega
theorem okC_preE{c:Cf}(h:errE c=0):preE c:=by
 obtain⟨g1,g2,g3⟩:=(err_zero c).1 h
 exact⟨⟨by have:=g2.1;omega,fun i hi=>by have:=(g2.2 i hi).1;omega⟩,by have:=g3.1;omega⟩
theorem wnc1{c:Cf}(h:okY c):i64.wrap (5*c.T)=5*c.T:=w64 (by have:=h.2.2.2.1;omega)
theorem wnc2{c:Cf}(h:okY c):i64.wrap (lT c+5*c.T)=ncI c:=w64 (by have:=nc_bd h;unfold ncI at this;omega)
theorem wnc4{c:Cf}(h:okY c):min (max (ncI c) 0) 131072=ncI c:=by have:=nc_bd h;omega
theorem is_cl(c:Cf):IsCl c (clOf c (fun e=>c.lenP e) c.nP c.nU):=⟨_,_,_,⟨fun _ _=>Z _,Z _,Z _⟩,rfl⟩
theorem gd_le{n:Nat}{f g:Nat->Nat}(h:∀j,j<n->f j<=g j)(i:Nat):gd n f i<=gd n g i:=by
 unfold gd
 split
 ·exact h i ‹_›
 ·exact Z _
theorem vhNewM(c:Cf)(_:True):zad (verNewM c):=by
  constructor
  rw[verNewM_eq]
  by_cases h0:errE c=0
  . have h:=okY_of h0
    have hp:=okC_preE h0
    have W:=wy h
    have hn:=nc_bd h
    have e1:=wnc1 h
    have e2:=wnc2 h
    have e3:=wnc4 h
    have hT:=h.2.2.2.1
    have e4:(ncI c).toNat=ncN c:=rfl
    simp only[V.holds,cf_eta,h0,layN,zz,decide_eq_true_eq,decide_eq_false_iff_not,z7,za,bne_iff_ne,bne_eq_false_iff_eq,beq_iff_eq,beq_eq_false_iff_ne,ne_eq,true_and,and_true,forall_const,true_implies,implies_true,z8,Nat.sub_zero,Nat.lt_add_one,Nat.zero_lt_one,Int.natCast_zero,Int.natCast_one,Int.cast_ofNat_Int,gt_iff_lt,ge_iff_le,and_self,eq_self,Z,if_true,Int.toNat_zero,ite_self,not_true_eq_false,false_implies,W.w3,W.w4,W.w1,W.w2,W.w5,W.w6,W.w7,W.w8,W.w10,W.w11,e1,e2,e3,e4]
    repeat' first
      | exact True.intro
      | with_reducible apply And.intro
      | (refine Prod.forall.2 fun xi F=>?_
         intro hx
         simp only at hx ⊢
         obtain⟨i,rfl⟩:=Int.eq_ofNat_of_zero_le hx.1
         simp only[Int.toNat_natCast]at hx ⊢
         obtain⟨hx0,hx1,hx2⟩:=hx)
      | (intro(hd:IsCl c _);obtain⟨F',x',z',hb,rfl⟩:=hd)
      | intro _
    all_goals try simp(disch:=omega) only[wnat,Int.toNat_natCast]
    all_goals first
      | omega
      | rfl
      | exact hp
      | exact⟨_,is_cl c⟩
      | assumption
      | exact .inl trivial
      | exact gd_le (fun j hj=>hb.1 j hj) _
      | exact⟨_,_,_,hb,rfl⟩
      | exact Nat.le_of_eq rfl
      | (split<;>rfl)
  . simp only[V.holds,cf_eta,h0,layN,zz,decide_eq_true_eq,decide_eq_false_iff_not,z7,za,bne_iff_ne,bne_eq_false_iff_eq,beq_iff_eq,beq_eq_false_iff_ne,ne_eq,true_and,and_true,forall_const,true_implies,implies_true,z8,Nat.sub_zero,Nat.lt_add_one,Nat.zero_lt_one,Int.natCast_zero,Int.natCast_one,Int.cast_ofNat_Int,gt_iff_lt,ge_iff_le,and_self,eq_self,Z,if_true,Int.toNat_zero,ite_self,not_true_eq_false,not_false_eq_true,false_implies,if_false]
noncomputable section
end
theorem u8i{z:Int}(h:(Lit.int .u8 z).wf=true):0<=z/\z<=255:=wf_u8 h
end Go.Proofs.YtabiechfpefjhaaGreat.Vc
