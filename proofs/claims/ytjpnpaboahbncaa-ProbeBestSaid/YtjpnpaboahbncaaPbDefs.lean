/- Choosing a victim: what the two functions compute. -/
import Derived.Test.YtjpnpaboahbncaaCnBits
set_option linter.unusedVariables false
namespace Go.Proofs.Ytjpnpaboahbncaa.Pb
open Go Go.RowKit Sx Cn
noncomputable section
def vic (n : Nat) (st : Int) (i : Nat) : Int := (dr st n + i) % n
def cho (g : Nat → Int) (n : Nat) (self st : Int) : Nat → Int × Int
  | 0 => (-1, -1)
  | i + 1 => if vic n st i ≠ self ∧ (cho g n self st i).2 < hi (g (vic n st i).toNat) then (vic n st i, hi (g (vic n st i).toNat)) else cho g n self st i
def U64 (n : Nat) (g : Nat → Int) : Prop := ∀ e, e < n → 0 ≤ g e ∧ g e ≤ 18446744073709551615
def slc0 (n cap : Nat) : SV := .c (.slc 0 (.k 0) (.k 0) 1 (.s n) (.s cap))
def hp0 (n : Nat) (g : Nat → Int) : HL := [(0, ints .u64 n g)]
def preC (n : Nat) (g : Nat → Int) : Prop := n ≤ 1000 ∧ U64 n g
def post22 (n : Nat) (g : Nat → Int) (self st : Int) : Out (SV × Hp) := .need (preC n g) (.leaf (.t [.c (.iv .i64 (cho g n self st n).1), .c (.iv .i64 (cho g n self st n).2)], ⟨[], 1, fun _ => True⟩))
def con22 : List SV → Hp → Out (SV × Hp) := fun args H => match args with
  | [.c (.slc k _ _ _ len cap), s, t] => opt (asI s) (fun rs => opt (asI t) (fun rt => opt (rowFn H.h k 0) (fun g =>
      useT [k] 1 [slc0 len.v cap.v, iv rs.2.2, iv rt.2.2] (hp0 len.v g) (post22 len.v g rs.2.2 rt.2.2) args H) 401) 402) 403
  | _ => .bad 404

def J22 (n cap : Nat) (g : Nat → Int) (self st : Int) (i : Nat) : St := ⟨tms 43 [(0, slc0 n cap), (1, iv self), (2, iv st), (6, iv (cho g n self st i).1), (7, iv (cho g n self st i).2), (8, iv n), (14, iv n), (15, iv i)], ⟨hp0 n g, 1, fun _ => True⟩⟩
def F22 (n : Nat) (g : Nat → Int) (self st : Int) : St := ⟨tms 43 [(6, iv (cho g n self st n).1), (7, iv (cho g n self st n).2)], ⟨[], 1, fun _ => True⟩⟩
def I22 (n : Nat) (g : Nat → Int) (i : Nat) : Prop := preC n g ∧ i ≤ n
def A22 (n : Nat) (g : Nat → Int) (self st : Int) : Out (Ex × St) := .leaf (.exit 0, F22 n g self st)
def round22 (n cap : Nat) (g : Nat → Int) (self st : Int) (i : Nat) : Out (Ex × St) := roundT P con3 22 0 3 2 1 (patOf (J22 n cap g self st i) 43 [6, 7]) (J22 n cap g self st i)
def ann22 (n cap : Nat) (g : Nat → Int) (self st : Int) : Ann := loopA (J22 n cap g self st) (I22 n g) 1 0 [] (A22 n g self st)
def tree22 (n cap : Nat) (g : Nat → Int) (self st : Int) : Out (SV × Hp) := execA P con3 22 [ann22 n cap g self st] 3 3 22 [slc0 n cap, iv self, iv st] ⟨hp0 n g, 1, fun _ => True⟩

def J23 (n cap : Nat) (g : Nat → Int) (self st : Int) (i : Nat) : St := ⟨tms 43 [(0, slc0 n cap), (1, iv self), (2, iv st), (6, iv (cho g n self st i).1), (7, iv (cho g n self st i).2), (8, iv i)], ⟨hp0 n g, 1, fun _ => True⟩⟩
def round23 (n cap : Nat) (g : Nat → Int) (self st : Int) (i : Nat) : Out (Ex × St) := roundT P con3 23 0 3 2 1 (patOf (J23 n cap g self st i) 43 [6, 7]) (J23 n cap g self st i)
def ann23 (n cap : Nat) (g : Nat → Int) (self st : Int) : Ann := loopA (J23 n cap g self st) (I22 n g) 1 0 [] (A22 n g self st)
def tree23 (n cap : Nat) (g : Nat → Int) (self st : Int) : Out (SV × Hp) := execA P con3 23 [ann23 n cap g self st] 3 3 23 [slc0 n cap, iv self, iv st] ⟨hp0 n g, 1, fun _ => True⟩
end
end Go.Proofs.Ytjpnpaboahbncaa.Pb
