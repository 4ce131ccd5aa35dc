/- Two machines step by step: what all laws have in common. -/
import Derived.Test.YtmdcgjccknhmoaaGreatMEnI
import Derived.Test.YtmdcgjccknhmoaaGreatMV
import Derived.Test.YtmdcgjccknhmoaaGreatMEg
import Derived.Test.YtmdcgjccknhmoaaGreatMW
import Derived.Test.YtmdcgjccknhmoaaGreatMNw
import Derived.Test.YtmdcgjccknhmoaaGreatMMd
set_option linter.unusedVariables false
set_option linter.unusedSimpArgs false
set_option maxRecDepth 100000
open Nat renaming le_refl -> Z
namespace Go.Proofs.YtmdcgjccknhmoaaGreat.En
open Go Go.RowKit Sx Cn Dc Ck Vc Md
noncomputable section
def frABD (k:Nat) (h:HL):Option (Int×Int×Int×Int×Nat):=match find k h with
 | some (.row _ c _ (.ck [.ki _ n]::_::_::_::_::_::.ck [a]::.ck [b]::.ck [d]::_))=>match numC a,numC b,numC d with
  | some x,some y,some z=>some (n,x,y,z,c)
  | _,_,_=>none
 | _=>none
end
/-! ### What holds of a round -/
def okMq (c:Cf) (v:Ev):Prop:=okY c/\v.x.n=c.T.toNat/\4<=v.n/\v.n<=1000000/\okRk v.x/\v.n<=v.a.c/\v.n<=v.b.c/\okMw 2000000 v.m
section
variable {s:Int} {m x:Mm} {n:Nat} {k a y:Int}
theorem q_cm {c:Cf} {v:Ev} (h:okMq c v) {now:Int} {e:Evs}:okCm ⟨v.n,m,now,v.x,0,e⟩:=⟨h.2.2.2.1,h.2.2.2.2.1,Nat.zero_le _⟩
theorem q_ka {c:Cf} {v:Ev} (h:okMq c v):v.n<=v.n/\v.n<=v.a.c:=⟨Z _,h.2.2.2.2.2.1⟩
theorem q_kb {c:Cf} {v:Ev} (h:okMq c v):v.n<=v.n/\v.n<=v.b.c:=⟨Z _,h.2.2.2.2.2.2.1⟩
theorem q_nt {b:Bool} (h:(!b)=true):b=false:=by cases b with | true=>cases h | false=>rfl
theorem q_nf {b:Bool} (h:(!b)=false):b=true:=by cases b with | true=>rfl | false=>cases h
theorem q_tn {c:Cf} {v:Ev} {t:Int} (h:okMq c v) (h1:(!decide (t < c.T))=false) (h2:(!decide (t < (v.x.n:Int)))=true):False:=by
 have h1:=of_decide_eq_true (q_nf h1)
 have h2:=of_decide_eq_false (q_nt h2)
 have h3:=h.2.1
 have h4:=h.1.2.2.2.1
 omega
theorem q_ctv {c:Cf} {v:Ev} (h:okMq c v) (hx:x=v.m.acc n k a y):decide (x.ct > IntKind.i64.wrap (v.m.ct+Int.ofNat 1))=false:=by
 cases hb:decide (x.ct > IntKind.i64.wrap (v.m.ct+Int.ofNat 1)) with
 | false=>rfl
 | true=>exact (ct_no h.2.2.2.2.2.2.2 (by omega) hb hx).elim
end
end Go.Proofs.YtmdcgjccknhmoaaGreat.En
/- The cells of tasks, answered alike by both sides; what is asked. -/
namespace Go.Proofs.YtmdcgjccknhmoaaGreat.En
open Go Go.RowKit Sx Cn Dc Ck Vc Md
noncomputable section
def hD:HL:=[(0,dum 1),(1,dum 3)]
end
end Go.Proofs.YtmdcgjccknhmoaaGreat.En
/- The program's cells of tasks; what is asked. -/
namespace Go.Proofs.YtmdcgjccknhmoaaGreat.En
open Go Go.RowKit Sx Cn Dc Ck Vc Md
noncomputable section
end
end Go.Proofs.YtmdcgjccknhmoaaGreat.En
/- The program's cells of tasks: the conditions, printed by program. -/
namespace Go.Proofs.YtmdcgjccknhmoaaGreat.En
open Go Go.RowKit Sx Cn Dc Ck Vc Md
end Go.Proofs.YtmdcgjccknhmoaaGreat.En
/- Cells of tasks: the conditions, printed by program. -/
namespace Go.Proofs.YtmdcgjccknhmoaaGreat.En
open Go Go.RowKit Sx Cn Dc Ck Vc Md
end Go.Proofs.YtmdcgjccknhmoaaGreat.En
/- The cells of tasks, answered alike by both sides: the contract of the reference's. -/
namespace Go.Proofs.YtmdcgjccknhmoaaGreat.En
open Go Go.RowKit Sx Cn Dc Ck Vc Md
noncomputable section
end
end Go.Proofs.YtmdcgjccknhmoaaGreat.En
/- The program's cells of tasks: the contract. -/
namespace Go.Proofs.YtmdcgjccknhmoaaGreat.En
open Go Go.RowKit Sx Cn Dc Ck Vc Md
noncomputable section
end
end Go.Proofs.YtmdcgjccknhmoaaGreat.En
/- Laws over Envs and Match: what they all ask. -/
namespace Go.Proofs.YtmdcgjccknhmoaaGreat.En
open Go Go.RowKit Sx Cn Dc Ck Vc Md
section
variable {g:Nat->Int} {len n:Nat} {d c:Cf} {v:Ev} {l:Sc}
theorem dec_W (hu:U8 len g) (h:zch g len d):d.W<=4/\d.H<=4/\d.nU<=900000:=by
 obtain ⟨FC,rc,cu,-,rfl⟩:=h
 have h1:=dW_r hu
 have h2:=nU_le hu
 have h3:=dH_r hu
 exact ⟨h1.2,h3.2,by show nU g len<=900000; omega⟩
theorem dec_pre (hu:U8 len g) (h:zch g len d) {q:Nat} (hl:okSc (Int.ofNat q) l) (hq:q<=1000):preEv d l.n:=by
 have h1:=dec_W hu h
 have h2:=hl.2
 simp only [Int.ofNat_eq_natCast] at h2
 exact ⟨dec_err hu h,dec_okC hu h,h1.1,h1.2.2,by omega⟩
theorem dec_Y (hu:U8 len g) (h:zch g len d):okY d:=okY_of (dec_err hu h)
theorem dec_mq (hu:U8 len g) (h:zch g len d) (hv:okEv d v) {c e:Cf} (hc:(c.W=d.W/\c.L=d.L/\c.C=d.C)/\c.T=d.T/\c.D=d.D/\c.H=d.H) {now dr:Int}:okMq c ⟨e,v.n,v.m,v.x,now,dr,v.a,v.b⟩:=by
 obtain ⟨-,v1,v2,v3,-,-,v6,v7,-,-,v8⟩:=hv
 have hn:=nc_4 (dec_Y hu h)
 rw [<- v1] at hn
 obtain ⟨⟨e1,e2,e3⟩,e4,e5,e6⟩:=hc
 refine ⟨?_,by rw [e4]; exact v2,hn.1,hn.2,v3,v6,v7,v8.le (by omega)⟩
 unfold okY
 rw [e1,e2,e3,e4,e5,e6]
 exact dec_Y hu h
theorem dec_rc (h:zch g len d):(d.nP<=d.nP/\d.nP<=d.rc)/\(d.nU<=d.nU/\d.nU<=d.cu):=by
 obtain ⟨FC,rc,cu,⟨h1,h2,h3⟩,rfl⟩:=h
 exact ⟨⟨Z _,h2⟩,Z _,h3⟩
theorem dec_gd (h:zch g len d) {i:Nat} (hi:i < d.nP):d.lenP i<=gd d.nP d.lenP i/\d.lenP i<=gd d.nP d.FC i:=by
 obtain ⟨FC,rc,cu,⟨h1,h2,h3⟩,rfl⟩:=h
 unfold gd
 rw [if_pos hi,if_pos hi]
 exact ⟨Z _,h1 i hi⟩
theorem s_len {l q k:Nat} (h:decide ((l:Int) > Int.ofNat q)=false) (hq:q<=1000):l<=1000000/\Int.ofNat 0<=Int.ofNat k:=by
 have:=of_decide_eq_false h
 simp only [Int.ofNat_eq_natCast] at this ⊢
 omega
theorem ex_dec (hu:U8 len g):∃ d,zch g len d:=⟨_,fun e=>lenP g len e,nP g len,nU g len,⟨fun _ _=>Z _,Z _,Z _⟩,rfl⟩
theorem ex_sc {q:Nat}:∃ l,okSc (Int.ofNat q) l:=⟨⟨0,0,fun _=>0,fun _=>0⟩,Z _,Int.natCast_nonneg q⟩
end
end Go.Proofs.YtmdcgjccknhmoaaGreat.En
