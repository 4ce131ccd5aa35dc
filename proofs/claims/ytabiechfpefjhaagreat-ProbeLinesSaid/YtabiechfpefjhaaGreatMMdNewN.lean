/- A part of the proof. -/
import Derived.Test.YtabiechfpefjhaaGreatMMd
set_option linter.unusedVariables false
set_option linter.unusedSimpArgs false
set_option maxRecDepth 100000
namespace Go.Proofs.YtabiechfpefjhaaGreat.Md
open Go Go.RowKit Sx Cn Dc Ck Vc
noncomputable section
def layN'(m:Mk)(c:Cf)(tb:Int):List SC:=[knI m.w .i64 c.W,knI m.l .i64 c.L,knI m.c .i64 c.C,knI m.t .i64 c.T,knI m.d .i64 c.D,knI m.h .i64 c.H,knI m.h .i64 (lS c),knI (m.h&&m.c) .i64 (lE c),knI (m.h&&(m.c&&m.w)) .i64 (lB c),knI (m.h&&(m.c&&m.w)) .i64 (lQ c),knI (m.h&&(m.c&&(m.w&&(m.l&&m.d)))) .i64 tb]
def envN(k0 k1 km kc kr:Nat)(m:Mk)(c d:Cf)(tb:Int)(rn rc:Nat):Blk:=.own 45 26 ((cfK m k0 k1 c d++layN' m c tb++[.ptr km (.k 0) (.k 0) 0 6,.ptr kc (.k 0) (.k 0) 0 2,slN m.t false kr 7 rn rc,.nils]).map some)
def selO{α:Type}{β:Type}(b:Bool)(x y:α)(k:α->Out β):Out β:=match b with|true=>k x|false=>k y
end
end Go.Proofs.YtabiechfpefjhaaGreat.Md
