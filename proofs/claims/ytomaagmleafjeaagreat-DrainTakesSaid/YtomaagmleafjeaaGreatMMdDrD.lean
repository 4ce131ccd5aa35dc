/- Drain alone: a model of its steps; what is asked. -/
import Derived.Test.YtomaagmleafjeaaGreatMMdRmD
import Derived.Test.YtomaagmleafjeaaGreatMW
import Derived.Test.YtomaagmleafjeaaGreatMMdIn
import Derived.Test.YtomaagmleafjeaaGreatMMdPuD
import Derived.Test.YtomaagmleafjeaaGreatMW
import Derived.Test.YtomaagmleafjeaaGreatMMdPop
import Derived.Test.YtomaagmleafjeaaGreatMMd
import Derived.Test.YtomaagmleafjeaaGreatMMdMod
set_option linter.unusedVariables false
set_option linter.unusedSimpArgs false
set_option linter.unusedVariables false
set_option maxRecDepth 100000
namespace Go.Proofs.YtomaagmleafjeaaGreat.Md
open Go Go.RowKit Sx Cn Dc Ck Vc
/-- The task, its level, the last level, the count, whether the task is direct; the Remove inside (which also says the steps, the memory, the events); the Push inside. -/
structure XDr where
  x : Int
  p : Int
  ls : Int
  c : Int
  dir : Bool
  r : XRm
  qt : Int
  qb : Int
  qr : Int
  qc : Int
  ln : Int
  b : Int
def noRm (ln : Int) (k : Nat) (m : Mm) (l : El) : XRm := ⟨ln, 0, 0, 0, 0, 0, 0, k, m, l⟩
def XDr.pu (d : XDr) : XPu := ⟨d.qt, d.qb, d.qr, d.qc, d.ln, d.b, d.r.s, d.r.m⟩
def XDr.go (d : XDr) (ln : Int) (m : Mm) : XDr := ⟨d.x, d.p, d.ls, d.c, d.dir, noRm ln (d.r.s + 1) m d.r.l, 0, 0, 0, 0, 0, 0⟩
/-- What Drain answers at its end. -/
def drEnd (d : XDr) : Int × Int := if d.dir = true then (1, d.x) else if 0 < d.c then (0, d.c) else (2, 0)
/-- 0: line 1; 1: a Try; 2: a Remove; 3: line 4; 4: a Push, not begun; 5: a Push inside it; 6: a Set inside it; 7: a Release; 8: a Wake, with one class. Without a sleeper: a sleeper stops the model. -/
def drStep (y : Ly) (n : Nat) (w B : Int) : Nat × XDr → Option ((Nat × XDr) × Option (Int × Int))
  | (0, d) => if IntKind.i64.wrap (d.r.m.val n 2) ≤ 0 then some ((0, d.go 0 (d.r.m.acc n 1 2 (d.r.m.val n 2))), some (2, 0)) else some ((1, d.go 0 (d.r.m.acc n 1 2 (d.r.m.val n 2))), none)
  | (1, d) => if d.r.m.hit n 1 0 = true then some ((2, d.go 1 (d.r.m.acc n 3 1 (casV (d.r.m.hit n 1 0) (d.r.m.val n 1) (IntKind.u64.wrap (IntKind.i64.wrap (w + 1)))))), none)
    else some ((1, d.go 0 (d.r.m.acc n 3 1 (casV (d.r.m.hit n 1 0) (d.r.m.val n 1) (IntKind.u64.wrap (IntKind.i64.wrap (w + 1)))))), some (5, 0))
  | (2, d) => match rmStep y n w d.r with
    | (r, none) => some ((2, ⟨d.x, d.p, d.ls, d.c, d.dir, r, 0, 0, 0, 0, 0, 0⟩), none)
    | (r, some (c, v)) => if c = 2 then some ((7, ⟨d.x, d.p, d.ls, d.c, d.dir, noRm 0 r.s r.m r.l, 0, 0, 0, 0, 0, 0⟩), none) else some ((3, ⟨v, d.p, d.ls, d.c, d.dir, noRm 0 r.s r.m r.l, 0, 0, 0, 0, 0, 0⟩), none)
  | (3, d) => some ((4, { d.go 0 (d.r.m.acc n 1 (atM d.x y.T (IntKind.i64.wrap (y.tb + 1)) 5) (d.r.m.val n (atM d.x y.T (IntKind.i64.wrap (y.tb + 1)) 5))) with p := IntKind.i64.wrap (d.r.m.val n (atM d.x y.T (IntKind.i64.wrap (y.tb + 1)) 5)) }), none)
  | (7, d) => if 0 < d.c then some ((8, d.go 0 (d.r.m.acc n 2 1 0)), none) else some ((7, d.go 0 (d.r.m.acc n 2 1 0)), some (drEnd d))
  | (8, d) => if d.r.m.val n (atM 0 y.C y.sl 1) = 0 then some ((8, d.go 0 (d.r.m.acc n 1 (atM 0 y.C y.sl 1) (d.r.m.val n (atM 0 y.C y.sl 1)))), some (drEnd d)) else none
  | (q, d) => match puStep y n w d.p d.x (q - 4, d.pu) with
    | ((q, u), none) => some ((4 + q, ⟨d.x, d.p, d.ls, d.c, d.dir, noRm 0 u.k u.m d.r.l, u.qt, u.qb, u.qr, u.qc, u.ln, u.b⟩), none)
    | ((q, u), some (c, _)) => if c = 3 then some ((7, ⟨d.x, d.p, d.ls, d.c, true, noRm 0 u.k u.m d.r.l, 0, 0, 0, 0, 0, 0⟩), none)
      else if IntKind.i64.wrap (d.c + 1) < B then some ((2, ⟨d.x, d.p, d.p, IntKind.i64.wrap (d.c + 1), d.dir, noRm 1 u.k u.m d.r.l, 0, 0, 0, 0, 0, 0⟩), none)
      else some ((7, ⟨d.x, d.p, d.p, IntKind.i64.wrap (d.c + 1), d.dir, noRm 0 u.k u.m d.r.l, 0, 0, 0, 0, 0, 0⟩), none)
def drRun (y : Ly) (n : Nat) (w B : Int) : Nat → Nat × XDr → Option Re
  | 0, x => some ⟨-1, 0, x.2.r.s, x.2.r.m, x.2.r.l⟩
  | f + 1, x => match drStep y n w B x with
    | none => none
    | some (x', none) => drRun y n w B f x'
    | some (x', some r) => some ⟨r.1, r.2, x'.2.r.s, x'.2.r.m, x'.2.r.l⟩
def dr0 (m : Mm) (l : El) : XDr := ⟨0, 0, 0, 0, false, noRm 0 0 m l, 0, 0, 0, 0, 0, 0⟩
def drR (y : Ly) (n : Nat) (w B : Int) (M : Nat) (m : Mm) (l : El) : Option Re := drRun y n w B M (0, dr0 m l)
noncomputable section
def tDr : TypeId := 67
def tTry : TypeId := 141
def tRel : TypeId := 152
def tWake : TypeId := 149
/-- Of a configuration, what is not in the layout: batch, age, patience; programs, submissions. -/
structure Cz where
  B : Int
  A : Int
  Q : Int
  nP : Nat
  rc : Nat
  nU : Nat
  cu : Nat
def envD (y : Ly) (z : Cz) (km ke : Nat) (ne nc : Nat) : Blk := .own 45 26 (([i6 y.W, i6 y.L, .ki .i64 1, i6 y.T, i6 y.D, i6 y.H, i6 z.B, i6 z.A, i6 z.Q, .slc 5 (.k 0) (.k 0) 1 (.s z.nP) (.s z.rc), .slc 6 (.k 0) (.k 0) 3 (.s z.nU) (.s z.cu)] ++ y.l).map some ++ [some (.ptr km (.k 0) (.k 0) 0 6), none, none, some (.slc ke (.k 0) (.k 0) 5 (.s ne) (.s nc))])
def dumP : Blk := .view 0 (fun _ => 0) [.cu]
def dumS : Blk := .view 0 (fun _ => 0) [.cu, .cu, .cu]
def hDr (y : Ly) (z : Cz) (len cap : NV) (m : Mm) (l : El) (nc : Nat) : HL := [(0, envD y z 1 4 l.n nc), (1, .own 75 6 ([.slc 2 (.k 0) (.k 0) 1 len cap, i6 m.lk, i6 m.lc, uw m.lo, uw m.ln, i6 m.ct].map some)), (2, .row 48 cap.v len.v [.ci .u64 fun _ e => m.g e]), (4, .row 47 nc l.n l.v.cols), (5, dumP), (6, dumS)]
def mDr (w : Int) (line ins dir : SC) (d : XDr) : Blk := .own 71 11 ([.kb false, .ki .i64 0, .ki .i64 0, i6 w, line, ins, i6 d.x, dir, i6 d.p, i6 d.ls, i6 d.c].map some)
def mDr0 (w : Int) : Blk := .own 71 11 ([.kb false, .ki .i64 0, .ki .i64 0, i6 w, .ki .i64 1, .nilI, .ki .i64 0, .kb false, .ki .i64 0, .ki .i64 0, .ki .i64 0].map some)
def mTry (w : Int) : Blk := .own 143 5 ([.kb false, .ki .i64 0, .ki .i64 0, i6 w, .kb true].map some)
def mRel : Blk := .own 154 3 ([.kb false, .ki .i64 0, .ki .i64 0].map some)
def mWake (w l : Int) : Blk := .own 151 8 ([.kb false, .ki .i64 0, .ki .i64 0, i6 w, i6 l, .ki .i64 1, .ki .i64 0, .ki .i64 0].map some)
def mPuD (w : Int) (d : XDr) : Blk := mPuO d.x d.pu
def dum2 : Blk := .view 0 (fun _ => 0) [.cu, .cu]
/-- The name of a machine inside that is left, or of a dummy with some columns. -/
def findT (j : Nat) (ts : List TypeId) : HL → Nat
  | [] => 0
  | (k, b) :: r => match b with
    | .fam _ _ _ _ cs => match Nat.beq cs.length j with
      | true => k
      | false => findT j ts r
    | .view _ _ cs => match Nat.beq cs.length j with
      | true => k
      | false => findT j ts r
    | .own t _ _ => match mem t ts with
      | true => k
      | false => findT j ts r
    | _ => findT j ts r
def inD1 (s : St) : Nat := match bCell (tmK 1 s) 5 s.H.h with
  | some (.ifc _ k _ _ _ _) => k
  | _ => findT 0 [143, 157, 147, 154, 151] s.H.h
def inD2 (s : St) : Nat := match bCell (inD1 s) 7 s.H.h with
  | some (.ifc _ k _ _ _ _) => k
  | _ => findT 2 [167, 170] s.H.h
def bCellB (k f : Nat) (h : HL) : Option Bool := (bCell k f h).bind fun c => (asB (.c c)).map fun r => r.2
def rdDr (s : St) : Option (Nat × XDr × Nat) := match tmI 8 s, rdMm s.H.h (envM 0 s), rdEl 0 s, cellI (tmK 1 s) 4 s.H.h, cellI (tmK 1 s) 6 s.H.h, bCellB (tmK 1 s) 7 s.H.h, cellI (tmK 1 s) 8 s.H.h, cellI (tmK 1 s) 9 s.H.h, cellI (tmK 1 s) 10 s.H.h with
  | some k, some x, some (e, nc), some line, some t, some dir, some p, some ls, some c => match bCell (tmK 1 s) 5 s.H.h with
    | some (.ifc ty ki _ _ _ _) => match Nat.beq ty tRem with
      | true => match cellI ki 4 s.H.h, cellI ki 5 s.H.h, cellI ki 6 s.H.h, cellI ki 7 s.H.h, cellI ki 8 s.H.h, cellI ki 9 s.H.h, cellI ki 10 s.H.h with
        | some l, some n, some i, some c2, some a, some b, some z => some (2, ⟨t, p, ls, c, dir, ⟨l, n, i, c2, a, b, z, k.toNat, x.m, e⟩, 0, 0, 0, 0, 0, 0⟩, nc)
        | _, _, _, _, _, _, _ => none
      | false => match Nat.beq ty tPush with
        | true => match bCell ki 7 s.H.h with
          | some (.ifc ty kj _ _ _ _) => match Nat.beq ty tPushO with
            | true => match cellI kj 3 s.H.h, cellI kj 4 s.H.h, cellI kj 5 s.H.h, cellI kj 6 s.H.h, cellI kj 8 s.H.h, cellI kj 9 s.H.h with
              | some a, some b, some c2, some d, some l, some u => some (5, ⟨t, p, ls, c, dir, noRm 0 k.toNat x.m e, a, b, c2, d, l, u⟩, nc)
              | _, _, _, _, _, _ => none
            | false => some (6, ⟨t, p, ls, c, dir, noRm 0 k.toNat x.m e, 0, 0, 0, 0, 0, 0⟩, nc)
          | some .nilI => some (4, ⟨t, p, ls, c, dir, noRm 0 k.toNat x.m e, 0, 0, 0, 0, 0, 0⟩, nc)
          | _ => none
        | false => some ((match Nat.beq ty tTry with
          | true => 1
          | false => match Nat.beq ty tRel with
            | true => 7
            | false => 8), ⟨t, p, ls, c, dir, noRm 0 k.toNat x.m e, 0, 0, 0, 0, 0, 0⟩, nc)
    | some .nilI => some ((bif decide (line = 1) then 0 else 3), ⟨t, p, ls, c, dir, noRm 0 k.toNat x.m e, 0, 0, 0, 0, 0, 0⟩, nc)
    | _ => none
  | _, _, _, _, _, _, _, _, _ => none
def okDr (y : Ly) (n : Nat) (w B : Int) (M : Nat) (R : Re) (x : Nat × XDr × Nat) : Prop := x.1 < 9 ∧ x.2.1.r.s ≤ M ∧ (x.2.1.r.l.n ≤ x.2.2 ∧ x.2.1.r.l.n ≤ 1000 + x.2.1.r.s) ∧ x.2.1.qc ≤ 9223372036854775807 ∧ (x.1 < 7 → x.2.1.dir = false) ∧ drRun y n w B (M - x.2.1.r.s) (x.1, x.2.1) = some R
def laDr (y : Ly) (w : Int) (M : Nat) (I : Nat × XDr × Nat → Prop) (s : St) : Option (LA (Nat × XDr × Nat)) := match memBs 0 s, find (tmK 0 s) s.H.h with
  | some mb, some (.own te se cs) => fN (envE 0 s) fun ke => fN (inD1 s) fun k1 => fN (inD2 s) fun k2 => some ⟨[(tmK 1, true), (envM 0, true), (envC 0, true), (tmK 0, true), (envE 0, false), (inD1, false), (inD2, false)],
      fun x => (match x.1 with
        | 0 => mDr w (.ki .i64 1) .nilI (.kb false) x.2.1
        | 1 => mDr w (.ki .i64 2) (.ifc tTry k1 (.k 0) (.k 0) 0 5) (.kb false) x.2.1
        | 2 => mDr w (.ki .i64 3) (.ifc tRem k1 (.k 0) (.k 0) 0 11) (.kb false) x.2.1
        | 3 => mDr w (.ki .i64 4) .nilI (.kb false) x.2.1
        | 4 | 5 | 6 => mDr w (.ki .i64 5) (.ifc tPush k1 (.k 0) (.k 0) 0 8) (.kb false) x.2.1
        | 7 => mDr w (.ki .i64 6) (.ifc tRel k1 (.k 0) (.k 0) 0 3) (.bv x.2.1.dir) x.2.1
        | _ => mDr w (.ki .i64 7) (.ifc tWake k1 (.k 0) (.k 0) 0 8) (.bv x.2.1.dir) x.2.1) :: (mb x.2.1.r.m ++ [.own te se (cs.set 25 (some (.slc ke (.k 0) (.k 0) 5 (.s x.2.1.r.l.n) (.s x.2.2)))), .row 47 x.2.2 x.2.1.r.l.n x.2.1.r.l.v.cols] ++ (match x.1 with
        | 1 => [mTry w, dum2]
        | 2 => [mRm w x.2.1.r, dum2]
        | 4 => [mPu w x.2.1.p x.2.1.x (.ki .i64 1) .nilI, dum2]
        | 5 => [mPu w x.2.1.p x.2.1.x (.ki .i64 1) (.ifc tPushO k2 (.k 0) (.k 0) 0 10), mPuD w x.2.1]
        | 6 => [mPu w x.2.1.p x.2.1.x (.ki .i64 2) (.ifc tSet k2 (.k 0) (.k 0) 0 5), mSet (atM w y.W y.bm 1) x.2.1.p]
        | 7 => [mRel, dum2]
        | 8 => [mWake w x.2.1.ls, dum2]
        | _ => [dumB, dum2])),
      [8], fun x => [.c (i6 x.2.1.r.s)], rdDr, I, fun x => M - x.2.1.r.s⟩
  | _, _ => none
def conDA : Con := Con.add fMod cMod (Con.add fCls cCls (Con.add fBit cBit (Con.add fCell cCell (conT con0))))
def hDe (y : Ly) (z : Cz) (len cap : NV) (r : Re) (nc : Nat) : HL := [(0, envD y z 1 7 r.l.n nc), (1, .own 75 6 ([.slc 2 (.k 0) (.k 0) 1 len cap, i6 r.m.lk, i6 r.m.lc, uw r.m.lo, uw r.m.ln, i6 r.m.ct].map some)), (2, .row 48 cap.v len.v [.ci .u64 fun _ e => r.m.g e]), (7, .row 47 nc r.l.n r.l.v.cols)]
def finDr (y : Ly) (z : Cz) (len cap : NV) (φ : Re × Nat → Prop) : SV → Hp → V := finV (X := Re × Nat) 7 8 (fun s H => (rdRe s H).map fun x => (x.1, x.2.1)) (fun _ H => keyEv H) φ (fun r => svRe r.1) (fun r => hDe y z len cap r.1 r.2)
def verDr (y : Ly) (z : Cz) (n cap : Nat) (w : Int) (M : Nat) (m : Mm) (l : El) (nc : Nat) (I : Nat × XDr × Nat → Prop) (φ : Re × Nat → Prop) : V := verF P conDA 14 12 8 [] (.loopS 9 (XDr × Nat) [.ren (envE 0), .newFam 0 [], .newFam 0 [.cu, .cu]] (laDr y w M I) .nil .nil)
  (argsAl tDr 11 M) ⟨hDr y z (.s n) (.s cap) m l nc ++ [(3, mDr0 w)], 7, fun _ => True⟩ (finDr y z (.s n) (.s cap) φ)
end
end Go.Proofs.YtomaagmleafjeaaGreat.Md
