/- Push of levels, alone: a model of its steps; what is asked. -/
import Derived.Test.YtomaagmleafjeaaMMdAl
set_option linter.unusedVariables false
set_option linter.unusedSimpArgs false
set_option linter.unusedVariables false
set_option maxRecDepth 100000
namespace Go.Proofs.Ytomaagmleafjeaa.Md
open Go Go.RowKit Sx Cn Dc Ck Vc
/-- The deque, the line, the word of the machine inside; steps; the memory. -/
structure XPu where
  qt : Int
  qb : Int
  qr : Int
  qc : Int
  ln : Int
  b : Int
  k : Nat
  m : Mm
noncomputable section
def tPush : TypeId := 130
def tPushO : TypeId := 261
def tSet : TypeId := 180
def mSet (B l : Int) : Blk := .own 182 5 ([.kb false, .ki .i64 0, .ki .i64 0, i6 B, i6 l].map some)
end
end Go.Proofs.Ytomaagmleafjeaa.Md
