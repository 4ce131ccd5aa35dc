/- A part of the proof. -/
import Derived.Test.YtabiechfpefjhaaGreatMMdRkD
import Derived.Test.YtabiechfpefjhaaGreatMW
import Derived.Test.YtabiechfpefjhaaGreatMMdIn
set_option linter.unusedVariables false
set_option linter.unusedSimpArgs false
set_option maxRecDepth 100000
open Go.IntKind (i64 u64)
open Int renaming ofNat -> O, ofNat_eq_natCast -> zz
open Go.Proofs.YtabiechfpefjhaaGreat.Sx.V renaming need -> U, needI -> z9
namespace Go.Proofs.YtabiechfpefjhaaGreat.Md
open Go Go.RowKit Sx Cn Dc Ck Vc
theorem vRP_eq(d a t:Int):vRP d a t=
 V.br (decide (d<O 0))
  (U ((O 0,false)=(pkW d a t,pkB d a t))
  (nN [(1,.eqI 0 0),(1,.pf (false=false) rfl)] V.ok))
  (V.br (decide (d>O 16777215))
  (U ((O 0,false)=(pkW d a t,pkB d a t))
  (nN [(1,.eqI 0 0),(1,.pf (false=false) rfl)] V.ok))
  (V.br (decide (a<O 0))
  (U ((O 0,false)=(pkW d a t,pkB d a t))
  (nN [(1,.eqI 0 0),(1,.pf (false=false) rfl)] V.ok))
  (V.br (decide (a>O 16777215))
  (U ((O 0,false)=(pkW d a t,pkB d a t))
  (nN [(1,.eqI 0 0),(1,.pf (false=false) rfl)] V.ok))
  (V.br (decide (t<O 0))
  (U ((O 0,false)=(pkW d a t,pkB d a t))
  (nN [(1,.eqI 0 0),(1,.pf (false=false) rfl)] V.ok))
  (V.br (decide (t>O 65535))
  (U ((O 0,false)=(pkW d a t,pkB d a t))
  (nN [(1,.eqI 0 0),(1,.pf (false=false) rfl)] V.ok))
  (U (O 24=(↑24:Int))
  (nN [(1,.leI2 0 24 24 63),(1,.pf (∃(x:Int),x=O 2 ^ 24) ⟨_,rfl⟩)]
  (V.any Int (fun (r:Int)=>r=O 2 ^ 24) fun (x:Int)=>U (O 16=(↑16:Int))
  (nN [(1,.leI2 0 16 16 63),(1,.pf (∃(x:Int),x=O 2 ^ 16) ⟨_,rfl⟩)]
  (V.any Int (fun (r:Int)=>r=O 2 ^ 16) fun (x_1:Int)=>U ((u64.wrap (u64.wrap (u64.wrap (u64.wrap (u64.wrap d*x)+u64.wrap a)*x_1)+u64.wrap t),true)=(pkW d a t,pkB d a t))
  (nN [(1,.pf (u64.wrap (u64.wrap (u64.wrap (u64.wrap (u64.wrap d*x)+u64.wrap a)*x_1)+u64.wrap t)=u64.wrap (u64.wrap (u64.wrap (u64.wrap (u64.wrap d*x)+u64.wrap a)*x_1)+u64.wrap t)) rfl),(1,.pf (true=true) rfl)] V.ok))))))))))):=by kernel_rfl
theorem vRU_eq(k:Int):vRU k=
 U (O 40=(↑40:Int))
  (nN [(1,.leI2 0 40 40 63),(1,.pf (∃(x:Int),x=O 2 ^ 40) ⟨_,rfl⟩)]
  (V.any Int (fun (r:Int)=>r=O 2 ^ 40) fun (x:Int)=>U (x≠O 0)
  (U (O 16=(↑16:Int))
  (nN [(1,.leI2 0 16 16 63),(1,.pf (∃(x:Int),x=O 2 ^ 16) ⟨_,rfl⟩)]
  (V.any Int (fun (r:Int)=>r=O 2 ^ 16) fun (x_1:Int)=>U (x_1≠O 0)
  (U (O 24=(↑24:Int))
  (nN [(1,.leI2 0 24 24 63),(1,.pf (∃(x:Int),x=O 2 ^ 24) ⟨_,rfl⟩)]
  (V.any Int (fun (r:Int)=>r=O 2 ^ 24) fun (x_2:Int)=>U (x_2≠O 0)
  (U (O 16=(↑16:Int))
  (nN [(1,.leI2 0 16 16 63),(1,.pf (∃(x:Int),x=O 2 ^ 16) ⟨_,rfl⟩)]
  (V.any Int (fun (r:Int)=>r=O 2 ^ 16) fun (x_3:Int)=>U (x_3≠O 0)
  (U (i64.wrap (k.tmod x_3)=tkW k)
  (nN [(1,.pf (i64.wrap (u64.wrap (k.tdiv x))=i64.wrap (u64.wrap (k.tdiv x))) rfl),(1,.pf (i64.wrap ((u64.wrap (k.tdiv x_1)).tmod x_2)=i64.wrap ((u64.wrap (k.tdiv x_1)).tmod x_2)) rfl),(1,.pf (i64.wrap (k.tmod x_3)=i64.wrap (k.tmod x_3)) rfl)] V.ok))))))))))))):=by kernel_rfl
theorem and_16{x:Nat}(hx:x<18446744073709551616):bits .and .u64 (x:Int) 65535=((x % 65536:Nat):Int):=by
 have h:x &&& 65535=x % 65536:=Nat.and_two_pow_sub_one_eq_mod x 16
 unfold bits
 show u64.wrap (((BitVec.ofInt 64 (x:Int)) &&& (BitVec.ofInt 64 (65535:Int))).toNat:Int)=_
 rw[BitVec.toNat_and,BitVec.ofInt_natCast,BitVec.toNat_ofNat,Nat.mod_eq_of_lt (by simpa using hx),show(BitVec.ofInt 64 65535).toNat=65535 by decide,h,wu64]
 omega
theorem vhRP{d a t:Int}:zad (vRP d a t):=by
 constructor
 rw[vRP_eq]
 refine V.brI (fun h=>z9 (pk_f (by have:=of_decide_eq_true h;simp only[zz]at this;omega)) (nN_h rfl V.okI)) fun h1=>?_
 have h1:=of_decide_eq_false h1
 refine V.brI (fun h=>z9 (pk_f (by have:=of_decide_eq_true h;simp only[zz]at this;omega)) (nN_h rfl V.okI)) fun h2=>?_
 have h2:=of_decide_eq_false h2
 refine V.brI (fun h=>z9 (pk_f (by have:=of_decide_eq_true h;simp only[zz]at this;omega)) (nN_h rfl V.okI)) fun h3=>?_
 have h3:=of_decide_eq_false h3
 refine V.brI (fun h=>z9 (pk_f (by have:=of_decide_eq_true h;simp only[zz]at this;omega)) (nN_h rfl V.okI)) fun h4=>?_
 have h4:=of_decide_eq_false h4
 refine V.brI (fun h=>z9 (pk_f (by have:=of_decide_eq_true h;simp only[zz]at this;omega)) (nN_h rfl V.okI)) fun h5=>?_
 have h5:=of_decide_eq_false h5
 refine V.brI (fun h=>z9 (pk_f (by have:=of_decide_eq_true h;simp only[zz]at this;omega)) (nN_h rfl V.okI)) fun h6=>?_
 have h6:=of_decide_eq_false h6
 simp only[zz,Int.cast_ofNat_Int,Int.natCast_zero]at h1 h2 h3 h4 h5 h6
 refine z9 rfl (nN_h rfl (V.anyI fun x hx=>z9 rfl (nN_h rfl (V.anyI fun y hy=>z9 ?_ (nN_h rfl V.okI)))))
 have hx:x=16777216:=hx
 have hy:y=65536:=hy
 subst hx hy
 rw[(pk_t (by omega)).1,(pk_t (by omega)).2]
 refine Prod.ext ?_ rfl
 show u64.wrap (u64.wrap (u64.wrap (u64.wrap (u64.wrap d*16777216)+u64.wrap a)*65536)+u64.wrap t)=_
 rw[wu64 (n:=d) (by omega),wu64 (n:=a) (by omega),wu64 (n:=t) (by omega),wu64 (n:=d*16777216) (by omega),wu64 (n:=d*16777216+a) (by omega),wu64 (n:=(d*16777216+a)*65536) (by omega),wu64 (by omega)]
 omega
theorem vhRU{k:Int}(h:0<=k/\k<=18446744073709551615):zad (vRU k):=by
 constructor
 rw[vRU_eq]
 have z:∀ {x y:Int},x=y->0<y->x≠O 0:=fun h h2 h3=>by
  have h3:_=(0:Int):=h3
  omega
 refine z9 rfl (nN_h rfl (V.anyI fun x1 h1=>z9 (z h1 (by decide)) (z9 rfl (nN_h rfl (V.anyI fun x2 h2=>z9 (z h2 (by decide)) (z9 rfl (nN_h rfl (V.anyI fun x3 h3=>z9 (z h3 (by decide)) (z9 rfl (nN_h rfl (V.anyI fun x hx=>z9 (z hx (by decide)) (z9 ?_ (nN_h rfl V.okI)))))))))))))
 have hx:x=65536:=hx
 subst hx
 obtain⟨k,rfl⟩:∃n:Nat,k=n:=⟨k.toNat,by omega⟩
 unfold tkW
 rw[and_16 (by omega),Int.tmod_eq_emod_of_nonneg (by omega)]
 rfl
noncomputable section
end
end Go.Proofs.YtabiechfpefjhaaGreat.Md
