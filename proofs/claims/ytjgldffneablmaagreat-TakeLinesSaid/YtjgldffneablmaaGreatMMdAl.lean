/- A part of the proof. -/
import Derived.Test.YtjgldffneablmaaGreatMMdLo
import Derived.Test.YtjgldffneablmaaGreatMNwMem
import Derived.Test.YtjgldffneablmaaGreatMW
set_option linter.unusedVariables false
set_option linter.unusedSimpArgs false
set_option maxRecDepth 100000
namespace Go.Proofs.YtjgldffneablmaaGreat.Md
open Go Go.RowKit Sx Cn Dc Ck Vc
structure Rs where
 c:Int
 v:Int
 k:Int
 m:Mm
def sz(b t:Int):Int:=IntKind.i64.wrap (IntKind.u64.wrap (b-t))
def zd7(r c i:Int):Int:=if c<1 then -1 else IntKind.i64.wrap (r+IntKind.i64.wrap (i.tmod (IntKind.u64.wrap c)))
def bitM(n:Int):Int:=if n<0\/n>63 then 0 else IntKind.u64.wrap (1*2 ^ min (IntKind.u64.wrap n).toNat 64)
def hiB(x:Int):Int:=IntKind.i64.wrap ((Lib.bitLen x.toNat:Int)-1)
noncomputable section
def fBit:FuncId:=200
def fCell:FuncId:=209
def vBit(n:Int):V:=verF P con0 3 4 fBit [] .nil [iv n] ⟨[],0,fun _=>True⟩ (finI .u64 fun r=>r=bitM n)
def vCell(a b c d i:Int):V:=verF P con0 3 4 fCell [] .nil [.a [i6 a,i6 b,i6 c,i6 d],.c (uw i)] ⟨[],0,fun _=>True⟩ (finI .i64 fun r=>r=zd7 c d i)
end
theorem vBit_eq(n:Int):vBit n=
 V.br (decide (n<Int.ofNat 0))
  (V.need (Int.ofNat 0=bitM n)
  (nN [(1,.eqI 0 0)] V.ok))
  (V.br (decide (n>Int.ofNat 63))
  (V.need (Int.ofNat 0=bitM n)
  (nN [(1,.eqI 0 0)] V.ok))
  (V.need (Int.ofNat 0<=IntKind.u64.wrap n)
  (V.need (IntKind.u64.wrap (Int.ofNat 1*Int.ofNat 2 ^ min (IntKind.u64.wrap n).toNat 64)=bitM n)
  (nN [(1,.pf (IntKind.u64.wrap (Int.ofNat 1*Int.ofNat 2 ^ min (IntKind.u64.wrap n).toNat 64)=IntKind.u64.wrap (Int.ofNat 1*Int.ofNat 2 ^ min (IntKind.u64.wrap n).toNat 64)) rfl)] V.ok)))):=by kernel_rfl
theorem vCell_eq(a b c d i:Int):vCell a b c d i=
 V.br (decide (d<Int.ofNat 1))
  (V.need (Int.negSucc 0=zd7 c d i)
  (nN [(1,.pf (Int.negSucc 0=Int.negSucc 0) rfl)] V.ok))
  (nN [(4,.lt2 0 1 0 1)]
  (V.need (IntKind.u64.wrap d≠Int.ofNat 0)
  (V.need (IntKind.i64.wrap (c+IntKind.i64.wrap (i.tmod (IntKind.u64.wrap d)))=zd7 c d i)
  (nN [(1,.pf (IntKind.i64.wrap (c+IntKind.i64.wrap (i.tmod (IntKind.u64.wrap d)))=IntKind.i64.wrap (c+IntKind.i64.wrap (i.tmod (IntKind.u64.wrap d)))) rfl)] V.ok)))):=by kernel_rfl
end Go.Proofs.YtjgldffneablmaaGreat.Md
