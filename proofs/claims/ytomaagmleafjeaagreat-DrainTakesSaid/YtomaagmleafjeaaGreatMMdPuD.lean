/- Push of levels, alone: a model of its steps; what is asked. -/
import Derived.Test.YtomaagmleafjeaaGreatMMdAlC
set_option linter.unusedVariables false
set_option linter.unusedSimpArgs false
set_option linter.unusedVariables false
set_option maxRecDepth 100000
namespace Go.Proofs.YtomaagmleafjeaaGreat.Md
open Go Go.RowKit Sx Cn Dc Ck Vc
/-- The deque, the line, the word of the machine inside; steps; the memory. -/
structure XPu where
  qt : Int
  qb : Int
  qr : Int
  qc : Int
  ln : Int
  b : Int
  k : Nat
  m : Mm
/-- 0: not begun; 1: a Push inside, behind its first line; 2: a Set inside. -/
def puStep (y : Ly) (n : Nat) (w l v : Int) : Nat × XPu → (Nat × XPu) × Option (Int × Int)
  | (0, x) => ((1, ⟨(quM y w l).t, (quM y w l).b, (quM y w l).r, (quM y w l).c, 2, x.m.val n (quM y w l).b, x.k + 1, x.m.acc n 1 (quM y w l).b (x.m.val n (quM y w l).b)⟩), none)
  | (1, x) =>
    if x.ln = 1 then ((1, { x with ln := 2, b := x.m.val n x.qb, k := x.k + 1, m := x.m.acc n 1 x.qb (x.m.val n x.qb) }), none)
    else if x.ln = 2 then
      if x.qc ≤ sz x.b (x.m.val n x.qt) then ((1, { x with k := x.k + 1, m := x.m.acc n 1 x.qt (x.m.val n x.qt) }), some (3, 0))
      else ((1, { x with ln := 3, k := x.k + 1, m := x.m.acc n 1 x.qt (x.m.val n x.qt) }), none)
    else if x.ln = 3 then ((1, { x with ln := 4, k := x.k + 1, m := x.m.acc n 2 (ringC x.qr x.qc x.b) (IntKind.u64.wrap v) }), none)
    else ((2, ⟨0, 0, 0, 0, 0, 0, x.k + 1, x.m.acc n 2 x.qb (IntKind.u64.wrap (x.b + 1))⟩), none)
  | (_, x) => ((2, { x with k := x.k + 1, m := x.m.acc n 4 (atM w y.W y.bm 1) (bits .or .u64 (x.m.val n (atM w y.W y.bm 1)) (bitM l)) }), some (0, 0))
def puRun (y : Ly) (n : Nat) (w l v : Int) : Nat → Nat × XPu → Rs := aRun XPu.k XPu.m (puStep y n w l v)
def puR (y : Ly) (n : Nat) (w l v : Int) (M : Nat) (m : Mm) : Rs := puRun y n w l v M (0, ⟨0, 0, 0, 0, 0, 0, 0, m⟩)
noncomputable section
def tPush : TypeId := 145
def tPushO : TypeId := 165
def tSet : TypeId := 168
def mPu (w l v : Int) (line : SC) (ins : SC) : Blk := .own 147 8 ([.kb false, .ki .i64 0, .ki .i64 0, i6 w, i6 l, i6 v, line, ins].map some)
def mPuO (v : Int) (x : XPu) : Blk := .own 167 10 ([.kb false, .ki .i64 0, .ki .i64 0, i6 x.qt, i6 x.qb, i6 x.qr, i6 x.qc, i6 v, i6 x.ln, uw x.b].map some)
def mSet (B l : Int) : Blk := .own 170 5 ([.kb false, .ki .i64 0, .ki .i64 0, i6 B, i6 l].map some)
end
end Go.Proofs.YtomaagmleafjeaaGreat.Md
