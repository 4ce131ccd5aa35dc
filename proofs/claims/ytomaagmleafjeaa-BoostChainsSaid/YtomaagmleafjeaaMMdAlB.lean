/- Machines that run alone: the contract of Alone, what all have in common. -/
import Derived.Test.YtomaagmleafjeaaMMdAl
import Derived.Test.YtomaagmleafjeaaMMd
set_option linter.unusedVariables false
set_option linter.unusedSimpArgs false
set_option linter.unusedVariables false
set_option linter.unusedSimpArgs false
set_option maxRecDepth 100000
namespace Go.Proofs.Ytomaagmleafjeaa.Md
open Go Go.RowKit Sx Cn Dc Ck Vc
/-- A contract said of blocks of which the same is known. -/
theorem LocalOK.preE {P : Program} {f : FuncId} {args : List SV} {h0 h1 : HL} {n : Nat} {post : Out (SV × Hp)} (h : LocalOK P f args h1 n post) (he : HLE h0 h1) : LocalOK P f args h0 n post := fun φ ρ w vs K hi hv hh =>
  (h φ ρ w vs K (hi.same he) hv hh).mono (by
    rintro e w' ⟨v, ρ', sv, H', a1, a2, a3, a4, a5, a6⟩
    exact ⟨v, ρ', sv, H', a1, a2, a3, ⟨a4.nxt, a4.D⟩, a5, a6⟩)
noncomputable section
end
/-- What is known of an environment whose layout and memory are read. -/
structure AP where
  y : Ly
  km : Nat
  kc : Nat
  len : NV
  cap : NV
  m : Mm
noncomputable section
def fAl : FuncId := 35
end
end Go.Proofs.Ytomaagmleafjeaa.Md
