/- A part of the proof. -/
import Derived.Test.YtabiechfpefjhaaGreatMMdBitD
import Derived.Test.YtabiechfpefjhaaGreatMW
set_option linter.unusedVariables false
set_option linter.unusedSimpArgs false
set_option maxRecDepth 100000
open Go.IntKind (i64 u64)
open Int renaming ofNat -> O
open Go.Proofs.YtabiechfpefjhaaGreat.Sx.V renaming need -> U, needI -> z9
namespace Go.Proofs.YtabiechfpefjhaaGreat.Md
open Go Go.RowKit Sx Cn Dc Ck Vc
theorem vPow_eq(i:Nat):vPow i=
 U ((↑i:Int).toNat<=i/\O 1=O 2 ^ (i-(↑i:Int).toNat))
  (U ((↑i:Int)=(↑(↑i:Int).toNat:Int))
  (nN [(1,.eqI 1 1)]
  (V.any XPw (fun (x:XPw)=>x.j<=i/\x.p=O 2 ^ (i-x.j)) fun (x:XPw)=>V.br (decide ((↑x.j:Int)>O 0))
  (U ((i64.wrap ((↑x.j:Int)-O 1)).toNat<=i/\u64.wrap (x.p*O 2)=O 2 ^ (i-(i64.wrap ((↑x.j:Int)-O 1)).toNat))
  (U ((i64.wrap ((↑x.j:Int)-O 1)).toNat<x.j)
  (U (i64.wrap ((↑x.j:Int)-O 1)=(↑(i64.wrap ((↑x.j:Int)-O 1)).toNat:Int))
  (nN [(1,.pf (u64.wrap (x.p*O 2)=u64.wrap (x.p*O 2)) rfl)] V.ok))))
  (U (x.p=O 2 ^ i)
  (nN [(1,.pf (x.p=x.p) rfl)] V.ok))))):=by kernel_rfl
theorem vRBit_eq(x v:Int):vRBit x v=
 V.br (decide (v >= O 0))
  (V.br (decide (v<O 64))
  (U (v=(↑v.toNat:Int))
  (U (O 0<=v/\v<=O 63)
  (nN [(1,.pf (∃(x:Int),x=O 2 ^ v.toNat) ⟨_,rfl⟩)]
  (V.any Int (fun (r:Int)=>r=O 2 ^ v.toNat) fun (x_1:Int)=>U (x_1≠O 0)
  (nN [(1,.neI 2 0)]
  (U True
  (U (((u64.wrap (x.tdiv x_1)).tmod (O 2) == O 1)=bitB x v) V.ok)))))))
  (U True
  (U (false=bitB x v) V.ok)))
  (U True
  (U (false=bitB x v) V.ok)):=by kernel_rfl
theorem pow63{i:Nat}(h:i<=63):(1:Int)<=2 ^ i/\(2:Int) ^ i<=9223372036854775808:=by
 have h1:((2 ^ i:Nat):Int)=(2:Int) ^ i:=Int.natCast_pow ..
 have h2:2 ^ i<=2 ^ 63:=Nat.pow_le_pow_right (by omega) h
 have h3:0<2 ^ i:=Nat.pow_pos (by omega)
 omega
theorem vhPow{i:Nat}(h:i<=63):zad (vPow i):=by
 constructor
 rw[vPow_eq]
 refine z9 ⟨by simp,by simp⟩ (z9 (by simp) (nN_h rfl (V.anyI fun x hx=>?_)))
 obtain⟨h1,h2⟩:=hx
 refine V.brI (fun hj=>?_) fun hj=>?_
 ·have hj:0<x.j:=by simpa using hj
  have e:i64.wrap ((x.j:Int)-O 1)=((x.j-1:Nat):Int):=by rw[Int.ofNat_eq_natCast,w64 (by omega)];omega
  have hp:=pow63 (show i-(x.j-1)<=63 by omega)
  have e2:x.p*2=2 ^ (i-(x.j-1)):=by rw[h2,show i-(x.j-1)=(i-x.j)+1 by omega,Int.pow_succ];rfl
  simp only[e,Int.toNat_natCast]
  refine z9 ⟨by omega,?_⟩ (z9 (by omega) (z9 trivial (nN_h rfl V.okI)))
  show u64.wrap (x.p*2)=2 ^ (i-(x.j-1))
  rw[e2,wu64 (by omega)]
 ·have hj:x.j=0:=by simpa using hj
  refine z9 ?_ (nN_h rfl V.okI)
  rw[h2,hj,Nat.sub_zero]
  try rfl
theorem bitB_eq{x:Int}{v:Int}(h0:0<=x/\x<=18446744073709551615)(h1:0<=v/\v<=63):((u64.wrap (x.tdiv (2 ^ v.toNat))).tmod 2 == 1)=bitB x v:=by
 obtain⟨X,rfl⟩:∃X:Nat,x=X:=⟨x.toNat,by omega⟩
 have h2:((2 ^ v.toNat:Nat):Int)=(2:Int) ^ v.toNat:=Int.natCast_pow ..
 have h3:0<2 ^ v.toNat:=Nat.pow_pos (by omega)
 have h4:=Nat.div_le_self X (2 ^ v.toNat)
 rw[<-h2,Int.tdiv_eq_ediv_of_nonneg (by omega),<-Int.natCast_ediv]
 unfold bitB
 rw[Int.toNat_natCast]
 generalize X / 2 ^ v.toNat=Q at *
 rw[wu64 (by omega),Int.tmod_eq_emod_of_nonneg (by omega),Bool.eq_iff_iff,beq_iff_eq,decide_eq_true_eq]
 omega
theorem vhRBit{x v:Int}(h:(0<=x/\x<=18446744073709551615)/\0<=v/\v<=63):zad (vRBit x v):=by
 have hp:=pow63 (show v.toNat<=63 by omega)
 constructor
 rw[vRBit_eq]
 refine V.brI (fun h1=>?_) fun h1=>absurd h1 (by simp;omega)
 refine V.brI (fun h2=>?_) fun h2=>absurd h2 (by simp;omega)
 refine z9 (by omega) (z9 (by simp;omega) (nN_h rfl (V.anyI fun p hp2=>z9 ?_ (nN_h rfl (z9 trivial (z9 ?_ V.okI))))))
 ·rw[hp2];show(2:Int) ^ v.toNat≠0;omega
 ·rw[hp2];exact bitB_eq h.1 h.2
noncomputable section
theorem cPow_ok:zab P fPow cPow:=zfv fun l args H=>by
 repeat' split
 all_goals first|exact .inl ⟨_,rfl⟩|exact .inr ⟨_,_,_,_,_,rfl,zae zaj.nil fun h=>vhPow (by omega)⟩
theorem conPw_ok:zaj P conPw:=.add cPow_ok zaj.nil
def cRBit:List SV->Hp->Out (SV×Hp):=numF fRBit fun l=>match l with
 | [x,v]=>useP [] 0 [.c (uw x),iv v] [] (.need ((0<=x/\x<=18446744073709551615)/\0<=v/\v<=63) (.any Bool (fun b=>b=bitB x v) fun b=>.leaf (.c (.bv b),⟨[],0,fun _=>True⟩)))
 | _=>fun _ _=>.bad 484
theorem cRBit_ok:zab P fRBit cRBit:=zfv fun l args H=>by
 repeat' split
 all_goals first|exact .inl ⟨_,rfl⟩|exact .inr ⟨_,_,_,_,_,rfl,(zai conPw_ok fun h=>vhRBit h).mono fun K hK=>⟨hK.1,hK.2.2 _ rfl⟩⟩
end
end Go.Proofs.YtabiechfpefjhaaGreat.Md
