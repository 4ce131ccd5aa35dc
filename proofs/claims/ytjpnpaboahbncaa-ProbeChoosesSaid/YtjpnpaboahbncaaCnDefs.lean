/- Functions of integers that all statements reach: what they compute. -/
import Derived.Test.YtjpnpaboahbncaaSxKit
import Derived.Test.YtjpnpaboahbncaaCnLen
set_option linter.unusedVariables false
namespace Go.Proofs.Ytjpnpaboahbncaa.Cn
open Go Go.RowKit Sx
noncomputable section
noncomputable abbrev P : Program := Try.prog
def T1 : Nat → Prop := fun _ => True
abbrev iv (n : Int) : SV := .c (.iv .i64 n)
abbrev uv (n : Int) : SV := .c (.iv .u64 n)

/-! ### the remainder, from 0 on -/
def dr (a b : Int) : Int := if b < 1 then 0 else a % b
def postDr : List Int → Out SV | [a, b] => .leaf (iv (dr a b)) | _ => .bad 400
/-! ### powers, bits -/
def pw (i : Int) : Int := 2 ^ i.toNat
def postPw : List Int → Out SV | [i] => .need (i ≤ 63) (.leaf (uv (pw i))) | _ => .bad 400
def bt (x i : Int) : Bool := decide (0 ≤ i ∧ i < 64 ∧ x / pw i % 2 = 1)
def postBt : List Int → Out SV | [x, i] => .need (0 ≤ x ∧ x ≤ 18446744073709551615) (.leaf (.c (.bv (bt x i)))) | _ => .bad 400
/-- The highest bit. -/
def hi (x : Int) : Int := (Lib.bitLen x.toNat : Int) - 1
def postHi : List Int → Out SV | [x] => .need (0 ≤ x ∧ x ≤ 18446744073709551615) (.leaf (iv (hi x))) | _ => .bad 400
def postLen : List Int → Out SV | [x] => .need (0 ≤ x ∧ x ≤ 18446744073709551615) (.leaf (iv (Lib.bitLen x.toNat))) | _ => .bad 400

def con0 : Con := fun _ => none
def noAnn : FuncId → Ann := fun _ => .nil
def emp : Hp := ⟨[], 0, fun _ => True⟩

def drTree (a b : Int) : Out (SV × Hp) := execF P con0 noAnn 3 2 26 [iv a, iv b] emp
def modTree (a b : Int) : Out (SV × Hp) := execF P con0 noAnn 3 2 71 [iv a, iv b] emp

/-! power: after j rounds -/
def Jpw (i : Int) (j : Nat) : St := ⟨tms 11 [(0, iv (i - j)), (3, uv (2 ^ j))], ⟨[], 0, fun _ => True⟩⟩
def Fpw (i : Int) : St := ⟨tms 11 [(3, uv (pw i))], ⟨[], 0, fun _ => True⟩⟩
def Apw (i : Int) : Out (Ex × St) := .leaf (.exit 0, Fpw i)
def pwRound (i : Int) (j : Nat) : Out (Ex × St) := roundT P con0 124 0 3 2 0 (patOf (Jpw i j) 11 [3]) (Jpw i j)
def pwAnn (i : Int) : Ann := loopA (Jpw i) (fun j => i ≤ 63 ∧ j ≤ i.toNat) 0 0 [] (Apw i)
def pwTree (i : Int) : Out (SV × Hp) := execA P con0 124 [pwAnn i] 3 3 124 [iv i] emp
end
end Go.Proofs.Ytjpnpaboahbncaa.Cn
