/- TakeTwo: the conditions hold for all shapes; the walk. -/
import Derived.Test.YtomaagmleafjeaaMMdTw0
import Derived.Test.YtomaagmleafjeaaMMdTw1
import Derived.Test.YtomaagmleafjeaaMMdTw2
import Derived.Test.YtomaagmleafjeaaMMdTw3
import Derived.Test.YtomaagmleafjeaaMMdTw4
set_option linter.unusedVariables false
set_option linter.unusedSimpArgs false
set_option maxRecDepth 100000
namespace Go.Proofs.Ytomaagmleafjeaa.Md
open Go Go.RowKit Sx Cn Dc Ck Vc
theorem vhTw {g p : Nat → Int} {lg cg lp cp : Nat} : VHolds (verTw yW g p lg cg lp cp (okW 9) (okW (min lg 12)) (okW 2) (okTw lp)) :=
  verO_h (k := 5) (m := 5) (by decide) fun j hj => by
    match j, hj with
    | 0, _ => exact vhTw0
    | 1, _ => exact vhTw1
    | 2, _ => exact vhTw2
    | 3, _ => exact vhTw3
    | 4, _ => exact vhTw4
theorem walkTw (a : Option Addr) (len cap : Nat) (g : Nat → Int) (b : Option Addr) (pn pc : Nat) (p : Nat → Int) (W : World) (h : IsInts .u8 W a len cap g) (h' : IsInts .i64 W b pn pc p) :
    Calls P 22 #[.slice a len cap, .slice b pn pc] W fun e w' => e = .returned (.bool true) ∧ Below W.heap.size W w' := by
  refine calls_yesV (vs := [.slice a len cap, .slice b pn pc]) con24w_ok (ρ := fun k i => if k = 0 ∧ i = 0 then addr0 a else if k = 1 ∧ i = 0 then addr0 b else none) (vhTw (g := g) (p := p) (lg := len) (cg := cap) (lp := pn) (cp := pc)) (views_inv fun k b' hk => ?_) ⟨h.val (by simp) ⟨Nat.le_of_ble_eq_true rfl, trivial⟩, h'.val (by simp) ⟨Nat.le_of_ble_eq_true rfl, trivial⟩, trivial⟩
  rw [find_cons] at hk
  split at hk
  · rename_i e; subst e
    cases hk
    exact ⟨rfl, by decide, h.sat (by simp)⟩
  rw [find_cons] at hk
  split at hk
  · rename_i e; subst e
    cases hk
    exact ⟨rfl, by decide, h'.sat (by simp)⟩
  · cases hk
end Go.Proofs.Ytomaagmleafjeaa.Md
