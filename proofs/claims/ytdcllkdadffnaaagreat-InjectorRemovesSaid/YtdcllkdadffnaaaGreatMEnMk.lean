/- Match for Remove of the injector only: the contract's answer. -/
import Derived.Test.YtdcllkdadffnaaaGreatMEnI
set_option linter.unusedVariables false
set_option linter.unusedSimpArgs false
set_option maxRecDepth 100000
namespace Go.Proofs.YtdcllkdadffnaaaGreat.En
open Go Go.RowKit Sx Cn Dc Ck Vc Md
noncomputable section
def cMz:List SV->Hp->Out (SV×Hp):=fun args H=>match args with
 | [.c (.ptr ke _ _ _ _),.c (.ptr kr _ _ _ _),.c (.ifc t kx _ _ _ _),.c (.ptr ky _ _ _ _),.c (.slc kn _ _ _ ln lc),_]=>fN ke fun ke=>fN kr fun kr=>fN kx fun kx=>fN ky fun ky=>fN kn fun kn=>fN (scK (zay ky 0 H.h)) fun kf=>match rdMt ke kr H.h,frAB kf H.h,rowW kn H.h with
  | some (c,v,σ,τ),some (n,d,u,cf),some g=>match n.toNat with
   | 11=>useP (σ++τ++[kx,ky,kf,kn]) 18 (argMt remX ln.v lc.v) (hMo c v (remB d (.ki .i64 1) z6 z6 z6 zU zU zU) (remF d (.ki .i64 1) z6 z6 z6 zU zU zU) cf ln.v g) (yesO 18 (okMi c v)) args H
   | _=>.bad 480
  | _,_,_=>.bad 482
 | _=>.bad 483
end
end Go.Proofs.YtdcllkdadffnaaaGreat.En
/- Match for Remove of the injector: the contract. -/
namespace Go.Proofs.YtdcllkdadffnaaaGreat.En
open Go Go.RowKit Sx Cn Dc Ck Vc Md
theorem nMr {c:Cf} {v:Ev} {d:Int} {cf ln lc:Nat} {g:Nat->Int}:zah P fMt (argMt remX ln lc) (hMo c v (remB d (.ki .i64 1) z6 z6 z6 zU zU zU) (remF d (.ki .i64 1) z6 z6 z6 zU zU zU) cf ln g) 18 (yesO 18 (okMi c v)):=zam conRj_ok fun h=>vhRj h
theorem cMz_ok:zab P fMt cMz:=zac fun args H=>by
 unfold cMz
 simp only [fN_eq]
 repeat' split
 all_goals first
  | exact .inl ⟨_,rfl⟩
  | with_reducible exact .inr ⟨_,_,_,_,_,rfl,nMr⟩
end Go.Proofs.YtdcllkdadffnaaaGreat.En
