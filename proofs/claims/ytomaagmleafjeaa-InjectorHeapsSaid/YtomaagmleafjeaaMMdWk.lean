/- An environment of which less is known. -/
import Derived.Test.YtomaagmleafjeaaMMdRmD
set_option linter.unusedVariables false
set_option linter.unusedSimpArgs false
set_option linter.unusedVariables false
namespace Go.Proofs.Ytomaagmleafjeaa.Md
open Go Go.RowKit Sx Cn Dc Ck Vc
def wkC (c : Option SC) : Option SC := match c with
  | some c => (numC c).map i6
  | none => none
def wkE (cs : List (Option SC)) (ke : Nat) (ne nc : Nat) : List (Option SC) := [none, none, none, none, none, wkC (cs[5]?).join, none, none, none, none, none] ++ ((cs.drop 11).take 11).map wkC ++ [(cs[22]?).join, none, none, some (.slc ke (.k 0) (.k 0) 5 (.s ne) (.s nc))]
end Go.Proofs.Ytomaagmleafjeaa.Md
