/- A part of the proof. -/
import Derived.Test.YtabiechfpefjhaaGreatMMdAl
set_option linter.unusedVariables false
set_option linter.unusedSimpArgs false
namespace Go.Proofs.YtabiechfpefjhaaGreat.Md
open Go Go.RowKit Sx Cn Dc Ck Vc
def zgf(self v w:Int)(r:Int×Int):Int×Int:=if v≠self/\hiB w>r.2 then(v,hiB w) else r
def chV(n s:Int)(i:Nat):Int:=(s+i) % n
def zas(B:Nat->Int)(n self s:Int):Nat->Int×Int
 | 0=>(-1,-1)
 | k+1=>zgf self (chV n s k) (B (chV n s k).toNat) (zas B n self s k)
section
variable {A B:Nat->Int} {n self s:Int}
theorem chV_bd(hn:0<n)(i:Nat):0<=chV n s i/\chV n s i<n:=⟨Int.emod_nonneg _ (by omega),Int.emod_lt_of_pos _ hn⟩
theorem chOne_self(w:Int)(r:Int×Int):zgf self self w r=r:=by unfold zgf;rw[if_neg (fun h=>h.1 rfl)]
theorem chV_inj(hn:0<n){i j:Nat}(hi:(i:Int)<n)(hj:(j:Int)<n)(h:chV n s i=chV n s j):i=j:=by
 unfold chV at h
 have h1:=Int.emod_emod_of_dvd (s+i) (Int.dvd_refl n)
 have e:(s+i-(s+j)) % n=0:=by rw[Int.sub_emod,h,Int.sub_self,Int.zero_emod]
 rw[show s+(i:Int)-(s+j)=(i:Int)-j by omega]at e
 have:=Int.dvd_of_emod_eq_zero e
 obtain⟨q,hq⟩:=this
 have hq0:q=0:=by
  rcases Int.lt_trichotomy q 0 with g|g|g
  ·have:n*q<=n*(-1):=Int.mul_le_mul_of_nonneg_left (by omega) (by omega)
   omega
  ·exact g
  ·have:n*1<=n*q:=Int.mul_le_mul_of_nonneg_left (by omega) (by omega)
   omega
 rw[hq0]at hq
 omega
theorem chRun_own{k:Nat}(h:chV n s k=self):zas B n self s (k+1)=zas B n self s k:=by
 show zgf _ _ _ _=_
 rw[h,chOne_self]
end
end Go.Proofs.YtabiechfpefjhaaGreat.Md
