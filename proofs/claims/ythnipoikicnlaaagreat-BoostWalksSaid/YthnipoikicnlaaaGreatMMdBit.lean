/- Bits by the reference: the conditions, printed by program. -/
import Derived.Test.YthnipoikicnlaaaGreatMMdBitD
import Derived.Test.YthnipoikicnlaaaGreatMW
set_option linter.unusedVariables false
set_option linter.unusedSimpArgs false
set_option maxRecDepth 100000
namespace Go.Proofs.YthnipoikicnlaaaGreat.Md
open Go Go.RowKit Sx Cn Dc Ck Vc
theorem vPow_eq (i:Nat):vPow i=
 V.need ((↑i:Int).toNat<=i/\Int.ofNat 1=Int.ofNat 2 ^ (i - (↑i:Int).toNat))
  (V.need ((↑i:Int)=(↑(↑i:Int).toNat:Int))
  (nN [(1,.eqI 1 1)]
  (V.any XPw (fun (x:XPw)=>x.j<=i/\x.p=Int.ofNat 2 ^ (i - x.j)) fun (x:XPw)=>V.br (decide ((↑x.j:Int) > Int.ofNat 0))
  (V.need ((IntKind.i64.wrap ((↑x.j:Int) - Int.ofNat 1)).toNat<=i/\IntKind.u64.wrap (x.p * Int.ofNat 2)=Int.ofNat 2 ^ (i - (IntKind.i64.wrap ((↑x.j:Int) - Int.ofNat 1)).toNat))
  (V.need ((IntKind.i64.wrap ((↑x.j:Int) - Int.ofNat 1)).toNat < x.j)
  (V.need (IntKind.i64.wrap ((↑x.j:Int) - Int.ofNat 1)=(↑(IntKind.i64.wrap ((↑x.j:Int) - Int.ofNat 1)).toNat:Int))
  (nN [(1,.pf (IntKind.u64.wrap (x.p * Int.ofNat 2)=IntKind.u64.wrap (x.p * Int.ofNat 2)) rfl)] V.ok))))
  (V.need (x.p=Int.ofNat 2 ^ i)
  (nN [(1,.pf (x.p=x.p) rfl)] V.ok))))):=by kernel_rfl
theorem pow63 {i:Nat} (h:i<=63):(1:Int)<=2 ^ i/\(2:Int) ^ i<=9223372036854775808:=by
 have h1:((2 ^ i:Nat):Int)=(2:Int) ^ i:=Int.natCast_pow ..
 have h2:2 ^ i<=2 ^ 63:=Nat.pow_le_pow_right (by omega) h
 have h3:0 < 2 ^ i:=Nat.pow_pos (by omega)
 omega
theorem vhPow {i:Nat} (h:i<=63):zad (vPow i):=by
 constructor
 rw [vPow_eq]
 refine V.needI ⟨by simp,by simp⟩ (V.needI (by simp) (nN_h rfl (V.anyI fun x hx=>?_)))
 obtain ⟨h1,h2⟩:=hx
 refine V.brI (fun hj=>?_) fun hj=>?_
 ·have hj:0 < x.j:=by simpa using hj
  have e:IntKind.i64.wrap ((x.j:Int) - Int.ofNat 1)=((x.j - 1:Nat):Int):=by rw [Int.ofNat_eq_natCast,w64 (by omega)]; omega
  have hp:=pow63 (show i - (x.j - 1)<=63 by omega)
  have e2:x.p * 2=2 ^ (i - (x.j - 1)):=by rw [h2,show i - (x.j - 1)=(i - x.j)+1 by omega,Int.pow_succ]; rfl
  simp only [e,Int.toNat_natCast]
  refine V.needI ⟨by omega,?_⟩ (V.needI (by omega) (V.needI trivial (nN_h rfl V.okI)))
  show IntKind.u64.wrap (x.p * 2)=2 ^ (i - (x.j - 1))
  rw [e2,wu64 (by omega)]
 ·have hj:x.j=0:=by simpa using hj
  refine V.needI ?_ (nN_h rfl V.okI)
  rw [h2,hj,Nat.sub_zero]
  try rfl
noncomputable section
theorem cPow_ok:zab P fPow cPow:=zfm fun l args H=>by
 repeat' split
 all_goals first | exact .inl ⟨_,rfl⟩ | exact .inr ⟨_,_,_,_,_,rfl,zae zak.nil fun h=>vhPow (by omega)⟩
theorem conPw_ok:zak P conPw:=.add cPow_ok zak.nil
end
end Go.Proofs.YthnipoikicnlaaaGreat.Md
