/- Machines that run alone: the contract of Alone, what all have in common. -/
import Derived.Test.YtdcllkdadffnaaaGreatMMdAl
import Derived.Test.YtdcllkdadffnaaaGreatMMd
set_option linter.unusedVariables false
set_option linter.unusedSimpArgs false
set_option maxRecDepth 100000
namespace Go.Proofs.YtdcllkdadffnaaaGreat.Md
open Go Go.RowKit Sx Cn Dc Ck Vc
theorem zah.preE {P:Program} {f:FuncId} {args:List SV} {h0 h1:HL} {n:Nat} {post:Out (SV×Hp)} (h:zah P f args h1 n post) (he:HLE h0 h1):zah P f args h0 n post:=fun φ ρ w vs K hi hv hh=>
 (h φ ρ w vs K (hi.same he) hv hh).mono (by
  rintro e w' ⟨v,ρ',sv,H',a1,a2,a3,a4,a5,a6⟩
  exact ⟨v,ρ',sv,H',a1,a2,a3,⟨a4.nxt,a4.D⟩,a5,a6⟩)
noncomputable section
def outAl (len cap:NV) (p:Prop) (R:Rs):Out (SV×Hp):=.need p (.any Rs (fun r=>r=R) fun r=>.leaf (svRs r,⟨hRs len cap r,4,fun _=>True⟩))
end
structure AP where
 y:Ly
 km:Nat
 kc:Nat
 len:NV
 cap:NV
 m:Mm
noncomputable section
def rdLy (k:Nat) (h:HL):Option Ly:=match zb0 k 11 h,zb0 k 12 h,zb0 k 13 h,zb0 k 14 h,zb0 k 15 h,zb0 k 16 h,zb0 k 17 h,zb0 k 18 h,zb0 k 19 h,zb0 k 20 h,zb0 k 21 h with
 | some a,some b,some c,some d,some e,some f,some g,some i,some j,some l,some o=>some ⟨a,b,c,d,e,f,g,i,j,l,o⟩
 | _,_,_,_,_,_,_,_,_,_,_=>none
def rdAP (k:Nat) (h:HL):Option AP:=fN (scK (zay k 22 h)) fun km=>match rdLy k h,rdMm h km with
 | some y,some x=>some ⟨y,km,x.kc,x.len,x.cap,x.m⟩
 | _,_=>none
def fAl:FuncId:=27
end
end Go.Proofs.YtdcllkdadffnaaaGreat.Md
