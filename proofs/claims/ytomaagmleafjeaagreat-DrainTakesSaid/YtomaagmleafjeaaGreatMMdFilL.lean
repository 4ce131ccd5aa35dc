/- Drain's statements, plain: what the memory holds when the injector is filled; Drain with the lock held. -/
import Derived.Test.YtomaagmleafjeaaGreatMMdFl
import Derived.Test.YtomaagmleafjeaaGreatMMdInR
import Derived.Test.YtomaagmleafjeaaGreatMMdHk
set_option linter.unusedVariables false
set_option linter.unusedSimpArgs false
set_option linter.unusedVariables false
set_option linter.unusedSimpArgs false
set_option maxRecDepth 100000
namespace Go.Proofs.YtomaagmleafjeaaGreat.Md
open Go Go.RowKit Sx Cn Dc Ck Vc
theorem dF_bd {g : Nat → Int} {i : Nat} : 0 ≤ dF g i ∧ dF g i ≤ 7 := by
  have h := IntKind.u8.wrap ((g i).tdiv 3)
  have h0 : 0 ≤ IntKind.u8.wrap ((g i).tdiv 3) := by
    have : IntKind.u8.wrap ((g i).tdiv 3) = (g i).tdiv 3 % 256 := by unfold IntKind.wrap; rfl
    omega
  have h1 := Int.tmod_nonneg 8 h0
  have h2 := Int.tmod_lt_of_pos (IntKind.u8.wrap ((g i).tdiv 3)) (show (0 : Int) < 8 by decide)
  unfold dF
  rw [w64 (by omega)]
  omega
def kF (g : Nat → Int) (v : Nat) : Int := pkW (dF g v) v v
theorem kF_e {g : Nat → Int} {v : Nat} (hv : v ≤ 64) : pkB (dF g v) v v = true ∧ kF g v = dF g v * 1099511627776 + v * 65536 + v := by
  have := dF_bd (g := g) (i := v)
  exact pk_t (by omega)
section
variable {D tb : Int} {n : Nat} {g : Nat → Int}
theorem ins_F {m : Mm} {i : Nat} (hn : 12 ≤ n) (hi : i < 8) (h2 : m.g 2 = i) (h3 : m.g 3 = i) : ∀ e, (inR (yF D tb) n (dF g i) i 200 m).m.g e = if e = 2 then (i : Int) + 1 else if e = 3 then (i : Int) + 1 else if 4 ≤ e then upM i (kF g i) (sl m.g) (e - 4) else m.g e := by
  have hH : (yF D tb).H = 8 := rfl
  exact (ins_fine (y := yF D tb) (n := n) (d := dF g i) (t := i) (m := m) (M := 200) (N := i) (a := i) (by omega) (by omega) (by omega) h2 (by omega) h3 (by omega) (kF_e (by omega)).1).2
end
end Go.Proofs.YtomaagmleafjeaaGreat.Md
