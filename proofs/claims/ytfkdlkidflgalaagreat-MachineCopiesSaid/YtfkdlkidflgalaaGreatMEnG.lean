/- Laws over Envs and Match: what they all ask. -/
import Derived.Test.YtfkdlkidflgalaaGreatMEg
import Derived.Test.YtfkdlkidflgalaaGreatMEnI
import Derived.Test.YtfkdlkidflgalaaGreatMNw
import Derived.Test.YtfkdlkidflgalaaGreatMMd
set_option linter.unusedVariables false
set_option linter.unusedSimpArgs false
set_option maxRecDepth 100000
open Nat renaming le_refl -> Z
namespace Go.Proofs.YtfkdlkidflgalaaGreat.En
open Go Go.RowKit Sx Cn Dc Ck Vc Md
section
variable {g:Nat->Int} {len n:Nat} {d c:Cf} {v:Ev} {l:Sc}
theorem dec_W (hu:U8 len g) (h:zcc g len d):d.W<=4/\d.H<=4/\d.nU<=900000:=by
 obtain ⟨FC,rc,cu,-,rfl⟩:=h
 have h1:=dW_r hu
 have h2:=nU_le hu
 have h3:=dH_r hu
 exact ⟨h1.2,h3.2,by show nU g len<=900000; omega⟩
theorem dec_pre (hu:U8 len g) (h:zcc g len d) {q:Nat} (hl:okSc (Int.ofNat q) l) (hq:q<=1000):preEv d l.n:=by
 have h1:=dec_W hu h
 have h2:=hl.2
 simp only [Int.ofNat_eq_natCast] at h2
 exact ⟨dec_err hu h,dec_okC hu h,h1.1,h1.2.2,by omega⟩
theorem dec_Y (hu:U8 len g) (h:zcc g len d):okY d:=okY_of (dec_err hu h)
theorem dec_rc (h:zcc g len d):(d.nP<=d.nP/\d.nP<=d.rc)/\(d.nU<=d.nU/\d.nU<=d.cu):=by
 obtain ⟨FC,rc,cu,⟨h1,h2,h3⟩,rfl⟩:=h
 exact ⟨⟨Z _,h2⟩,Z _,h3⟩
theorem dec_gd (h:zcc g len d) {i:Nat} (hi:i < d.nP):d.lenP i<=gd d.nP d.lenP i/\d.lenP i<=gd d.nP d.FC i:=by
 obtain ⟨FC,rc,cu,⟨h1,h2,h3⟩,rfl⟩:=h
 unfold gd
 rw [if_pos hi,if_pos hi]
 exact ⟨Z _,h1 i hi⟩
theorem s_len {l q k:Nat} (h:decide ((l:Int) > Int.ofNat q)=false) (hq:q<=1000):l<=1000000/\Int.ofNat 0<=Int.ofNat k:=by
 have:=of_decide_eq_false h
 simp only [Int.ofNat_eq_natCast] at this ⊢
 omega
theorem ex_dec (hu:U8 len g):∃ d,zcc g len d:=⟨_,fun e=>lenP g len e,nP g len,nU g len,⟨fun _ _=>Z _,Z _,Z _⟩,rfl⟩
theorem ex_sc {q:Nat}:∃ l,okSc (Int.ofNat q) l:=⟨⟨0,0,fun _=>0,fun _=>0⟩,Z _,Int.natCast_nonneg q⟩
end
end Go.Proofs.YtfkdlkidflgalaaGreat.En
