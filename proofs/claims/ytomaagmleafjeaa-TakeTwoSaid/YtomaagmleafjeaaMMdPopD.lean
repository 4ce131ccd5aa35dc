/- Pop of levels, alone: a model of its steps; what is asked. -/
import Derived.Test.YtomaagmleafjeaaMMdAlC
set_option linter.unusedVariables false
set_option linter.unusedSimpArgs false
set_option maxRecDepth 100000
namespace Go.Proofs.Ytomaagmleafjeaa.Md
open Go Go.RowKit Sx Cn Dc Ck Vc
/-- The level; the deque, the line, the words of the machine inside; steps; the memory. -/
structure XPo where
  lv : Int
  qt : Int
  qb : Int
  qr : Int
  qc : Int
  ln : Int
  b : Int
  t : Int
  k : Nat
  m : Mm
/-- 0: line 1; 1: a Pop inside; 2: a Clear inside. -/
def popStep (y : Ly) (n : Nat) (w : Int) : Nat × XPo → (Nat × XPo) × Option (Int × Int)
  | (0, x) => if x.m.val n (atM w y.W y.bm 1) = 0 then ((0, { x with k := x.k + 1, m := x.m.acc n 1 (atM w y.W y.bm 1) (x.m.val n (atM w y.W y.bm 1)) }), some (2, 0))
    else ((1, ⟨hiB (x.m.val n (atM w y.W y.bm 1)), (quM y w (hiB (x.m.val n (atM w y.W y.bm 1)))).t, (quM y w (hiB (x.m.val n (atM w y.W y.bm 1)))).b, (quM y w (hiB (x.m.val n (atM w y.W y.bm 1)))).r, (quM y w (hiB (x.m.val n (atM w y.W y.bm 1)))).c, 1, 0, 0, x.k + 1, x.m.acc n 1 (atM w y.W y.bm 1) (x.m.val n (atM w y.W y.bm 1))⟩), none)
  | (1, x) =>
    if x.ln = 1 then ((1, { x with ln := 2, b := x.m.val n x.qb, k := x.k + 1, m := x.m.acc n 1 x.qb (x.m.val n x.qb) }), none)
    else if x.ln = 2 then
      if sz x.b (x.m.val n x.qt) ≤ 0 then ((2, ⟨x.lv, (quM y w x.lv).t, (quM y w x.lv).b, (quM y w x.lv).r, (quM y w x.lv).c, 1, 0, 0, x.k + 1, x.m.acc n 1 x.qt (x.m.val n x.qt)⟩), none)
      else ((1, { x with ln := 3, t := x.m.val n x.qt, k := x.k + 1, m := x.m.acc n 1 x.qt (x.m.val n x.qt) }), none)
    else if x.ln = 3 then ((1, { x with ln := 4, k := x.k + 1, m := x.m.acc n 2 x.qb (IntKind.u64.wrap (x.b - 1)) }), none)
    else if x.ln = 4 then ((1, { x with ln := if sz (IntKind.u64.wrap (x.b - 1)) (x.m.val n x.qt) > 0 then 5 else if sz (IntKind.u64.wrap (x.b - 1)) (x.m.val n x.qt) = 0 then 6 else 9, t := x.m.val n x.qt, k := x.k + 1, m := x.m.acc n 1 x.qt (x.m.val n x.qt) }), none)
    else if x.ln = 5 ∨ x.ln = 8 then ((1, { x with k := x.k + 1, m := x.m.acc n 1 (ringC x.qr x.qc (IntKind.u64.wrap (x.b - 1))) (x.m.val n (ringC x.qr x.qc (IntKind.u64.wrap (x.b - 1)))) }), some (1, IntKind.i64.wrap (x.m.val n (ringC x.qr x.qc (IntKind.u64.wrap (x.b - 1))))))
    else if x.ln = 6 then ((1, { x with ln := if x.m.hit n x.qt x.t = true then 7 else 9, k := x.k + 1, m := x.m.acc n 3 x.qt (casV (x.m.hit n x.qt x.t) (x.m.val n x.qt) (IntKind.u64.wrap (x.t + 1))) }), none)
    else if x.ln = 7 then ((1, { x with ln := 8, k := x.k + 1, m := x.m.acc n 2 x.qb x.b }), none)
    else ((2, ⟨x.lv, (quM y w x.lv).t, (quM y w x.lv).b, (quM y w x.lv).r, (quM y w x.lv).c, 1, 0, 0, x.k + 1, x.m.acc n 2 x.qb x.b⟩), none)
  | (_, x) =>
    if x.ln = 1 then ((2, { x with ln := 2, t := 0, k := x.k + 1, m := x.m.acc n 5 (atM w y.W y.bm 1) (bits .and .u64 (x.m.val n (atM w y.W y.bm 1)) (bits .xor .u64 IntKind.u64.max (bitM x.lv))) }), none)
    else if x.ln = 2 then ((2, { x with ln := 3, b := x.m.val n x.qb, t := 0, k := x.k + 1, m := x.m.acc n 1 x.qb (x.m.val n x.qb) }), none)
    else if x.ln = 3 then
      if sz x.b (x.m.val n x.qt) ≤ 0 then ((0, ⟨x.lv, 0, 0, 0, 0, 0, 0, 0, x.k + 1, x.m.acc n 1 x.qt (x.m.val n x.qt)⟩), none)
      else ((2, { x with ln := 4, t := 0, k := x.k + 1, m := x.m.acc n 1 x.qt (x.m.val n x.qt) }), none)
    else ((0, ⟨x.lv, 0, 0, 0, 0, 0, 0, 0, x.k + 1, x.m.acc n 4 (atM w y.W y.bm 1) (bits .or .u64 (x.m.val n (atM w y.W y.bm 1)) (bitM x.lv))⟩), none)
noncomputable section
def tPop : TypeId := 135
def tPopO : TypeId := 269
def tClr : TypeId := 266
def mPop (w lv : Int) (line : SC) (ins : SC) : Blk := .own 137 7 ([.kb false, .ki .i64 0, .ki .i64 0, i6 w, i6 lv, line, ins].map some)
def mPopO (x : XPo) : Blk := .own 271 10 ([.kb false, .ki .i64 0, .ki .i64 0, i6 x.qt, i6 x.qb, i6 x.qr, i6 x.qc, i6 x.ln, uw x.b, uw x.t].map some)
def mClr (B : Int) (x : XPo) : Blk := .own 268 11 ([.kb false, .ki .i64 0, .ki .i64 0, i6 B, i6 x.lv, i6 x.qt, i6 x.qb, i6 x.qr, i6 x.qc, i6 x.ln, uw x.b].map some)
end
end Go.Proofs.Ytomaagmleafjeaa.Md
