/- Bits: what is said of the functions; the first table of contracts. -/
import Derived.Test.YtjpnpaboahbncaaCnWords
import Derived.Lib.ItoaNum
set_option linter.unusedVariables false
namespace Go.Proofs.Ytjpnpaboahbncaa.Cn
open Go Go.RowKit Sx
noncomputable section
def postDr2 : List Int → Out SV := (fun | [a, b] => .need (b ≤ 9223372036854775807) (.leaf (iv (dr a b))) | _ => .bad 400)
def con1 : Con := Con.add 124 (conP [.i64] postPw) (Con.add 26 (conP [.i64, .i64] postDr2) (Con.add 71 (conP [.i64, .i64] postDr2) (Con.add 123 (conP [.u64] postLen) con0)))
def btTree (x i : Int) : Out (SV × Hp) := execF P con1 noAnn 3 2 73 [uv x, iv i] emp
def hiTree (x : Int) : Out (SV × Hp) := execF P con1 noAnn 3 2 72 [uv x] emp
def con2 : Con := Con.add 73 (conP [.u64, .i64] postBt) con1
/-! ref01.High: j bits have been looked at -/
def Jhi (x : Int) (j : Nat) : St := ⟨tms 12 [(0, uv x), (3, iv (63 - j))], ⟨[], 0, fun _ => True⟩⟩
def Fhi0 : St := ⟨noTm 12, ⟨[], 0, fun _ => True⟩⟩
def Fhi1 (x : Int) : St := ⟨tms 12 [(2, iv (hi x))], ⟨[], 0, fun _ => True⟩⟩
def Ahi (x : Int) : Out (Ex × St) := .br (decide (x = 0)) (.leaf (.exit 0, Fhi0)) (.leaf (.ret, Fhi1 x))
def Ihi (x : Int) (j : Nat) : Prop := 0 ≤ x ∧ j ≤ 64 ∧ x < 2 ^ (64 - j)
def hiRound (x : Int) (j : Nat) : Out (Ex × St) := roundT P con2 25 0 3 2 0 (patOf (Jhi x j) 12 [2]) (Jhi x j)
def hiAnn (x : Int) : Ann := loopA (Jhi x) (Ihi x) 0 0 [] (Ahi x)
def highTree (x : Int) : Out (SV × Hp) := execA P con2 25 [hiAnn x] 3 3 25 [uv x] emp
end
end Go.Proofs.Ytjpnpaboahbncaa.Cn
