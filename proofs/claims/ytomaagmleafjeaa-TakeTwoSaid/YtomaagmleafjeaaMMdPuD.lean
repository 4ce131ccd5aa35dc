/- Push of levels, alone: a model of its steps; what is asked. -/
import Derived.Test.YtomaagmleafjeaaMMdAlC
set_option linter.unusedVariables false
set_option linter.unusedSimpArgs false
set_option maxRecDepth 100000
namespace Go.Proofs.Ytomaagmleafjeaa.Md
open Go Go.RowKit Sx Cn Dc Ck Vc
/-- The deque, the line, the word of the machine inside; steps; the memory. -/
structure XPu where
  qt : Int
  qb : Int
  qr : Int
  qc : Int
  ln : Int
  b : Int
  k : Nat
  m : Mm
/-- 0: not begun; 1: a Push inside, behind its first line; 2: a Set inside. -/
def puStep (y : Ly) (n : Nat) (w l v : Int) : Nat × XPu → (Nat × XPu) × Option (Int × Int)
  | (0, x) => ((1, ⟨(quM y w l).t, (quM y w l).b, (quM y w l).r, (quM y w l).c, 2, x.m.val n (quM y w l).b, x.k + 1, x.m.acc n 1 (quM y w l).b (x.m.val n (quM y w l).b)⟩), none)
  | (1, x) =>
    if x.ln = 1 then ((1, { x with ln := 2, b := x.m.val n x.qb, k := x.k + 1, m := x.m.acc n 1 x.qb (x.m.val n x.qb) }), none)
    else if x.ln = 2 then
      if x.qc ≤ sz x.b (x.m.val n x.qt) then ((1, { x with k := x.k + 1, m := x.m.acc n 1 x.qt (x.m.val n x.qt) }), some (3, 0))
      else ((1, { x with ln := 3, k := x.k + 1, m := x.m.acc n 1 x.qt (x.m.val n x.qt) }), none)
    else if x.ln = 3 then ((1, { x with ln := 4, k := x.k + 1, m := x.m.acc n 2 (ringC x.qr x.qc x.b) (IntKind.u64.wrap v) }), none)
    else ((2, ⟨0, 0, 0, 0, 0, 0, x.k + 1, x.m.acc n 2 x.qb (IntKind.u64.wrap (x.b + 1))⟩), none)
  | (_, x) => ((2, { x with k := x.k + 1, m := x.m.acc n 4 (atM w y.W y.bm 1) (bits .or .u64 (x.m.val n (atM w y.W y.bm 1)) (bitM l)) }), some (0, 0))
def puRun (y : Ly) (n : Nat) (w l v : Int) : Nat → Nat × XPu → Rs := aRun XPu.k XPu.m (puStep y n w l v)
def puR (y : Ly) (n : Nat) (w l v : Int) (M : Nat) (m : Mm) : Rs := puRun y n w l v M (0, ⟨0, 0, 0, 0, 0, 0, 0, m⟩)
noncomputable section
def tPush : TypeId := 130
def tPushO : TypeId := 261
def tSet : TypeId := 180
def mPu (w l v : Int) (line : SC) (ins : SC) : Blk := .own 134 8 ([.kb false, .ki .i64 0, .ki .i64 0, i6 w, i6 l, i6 v, line, ins].map some)
def mPuO (v : Int) (x : XPu) : Blk := .own 263 10 ([.kb false, .ki .i64 0, .ki .i64 0, i6 x.qt, i6 x.qb, i6 x.qr, i6 x.qc, i6 v, i6 x.ln, uw x.b].map some)
def mSet (B l : Int) : Blk := .own 182 5 ([.kb false, .ki .i64 0, .ki .i64 0, i6 B, i6 l].map some)
def insPu (s : St) : Nat := insK 1 7 [263, 182] s
def rdPu (s : St) : Option (Nat × XPu) := match tmI 8 s, rdMm s.H.h (envM 0 s) with
  | some k, some x => match bCell (tmK 1 s) 7 s.H.h with
    | some (.ifc t ki _ _ _ _) => match Nat.beq t tPushO with
      | true => match cellI ki 3 s.H.h, cellI ki 4 s.H.h, cellI ki 5 s.H.h, cellI ki 6 s.H.h, cellI ki 8 s.H.h, cellI ki 9 s.H.h with
        | some a, some b, some c, some d, some l, some u => some (1, ⟨a, b, c, d, l, u, k.toNat, x.m⟩)
        | _, _, _, _, _, _ => none
      | false => some (2, ⟨0, 0, 0, 0, 0, 0, k.toNat, x.m⟩)
    | some .nilI => some (0, ⟨0, 0, 0, 0, 0, 0, k.toNat, x.m⟩)
    | _ => none
  | _, _ => none
def okPu (y : Ly) (n : Nat) (w l v : Int) (M : Nat) (R : Rs) (x : Nat × XPu) : Prop := x.1 < 3 ∧ x.2.k ≤ M ∧ x.2.qc ≤ 9223372036854775807 ∧ puRun y n w l v (M - x.2.k) x = R
def laPu (y : Ly) (n : Nat) (w l v : Int) (M : Nat) (R : Rs) (s : St) : Option (LA (Nat × XPu)) := match memBs 0 s with
  | some mb => fN (insPu s) fun ki => some ⟨[(tmK 1, true), (envM 0, true), (envC 0, true), (insPu, false)],
      fun x => match x with
        | (0, x) => mPu w l v (.ki .i64 1) .nilI :: (mb x.m ++ [dumB])
        | (1, x) => mPu w l v (.ki .i64 1) (.ifc tPushO ki (.k 0) (.k 0) 0 10) :: (mb x.m ++ [mPuO v x])
        | (_, x) => mPu w l v (.ki .i64 2) (.ifc tSet ki (.k 0) (.k 0) 0 5) :: (mb x.m ++ [mSet (atM w y.W y.bm 1) l]),
      [8], fun x => [.c (i6 x.2.k)], rdPu, okPu y n w l v M R, fun x => M - x.2.k⟩
  | none => none
def verPu (y : Ly) (n cap : Nat) (w l v : Int) (M : Nat) (m : Mm) : V := verF P conTA 12 12 35 [] (.loopS 3 XPu [.newFam 0 []] (laPu y n w l v M (puR y n w l v M m)) .nil .nil)
  (argsAl tPush 8 M) ⟨hAl y (.s n) (.s cap) m ++ [(3, mPu w l v (.ki .i64 1) .nilI)], 4, fun _ => True⟩ (finAl 4 (.s n) (.s cap) fun r => r = puR y n w l v M m)
end
end Go.Proofs.Ytomaagmleafjeaa.Md
