/- Take alone: a model of its steps; what is asked. -/
import Derived.Test.YtomaagmleafjeaaMMdRmD
import Derived.Test.YtomaagmleafjeaaMW
import Derived.Test.YtomaagmleafjeaaMMdInD
import Derived.Test.YtomaagmleafjeaaMMd
import Derived.Test.YtomaagmleafjeaaMMdPop
set_option linter.unusedVariables false
set_option linter.unusedSimpArgs false
set_option maxRecDepth 100000
namespace Go.Proofs.Ytomaagmleafjeaa.Md
open Go Go.RowKit Sx Cn Dc Ck Vc
/-- The Pop inside (which also says the steps and the memory); the events; which tasks are known as started; the task that is claimed. -/
structure XTa where
  p : XPo
  l : El
  st : Nat → Bool
  v : Int
/-- A result: of Alone; which tasks are known as started. -/
structure Rt where
  r : Re
  st : Nat → Bool
def noPo (k : Nat) (m : Mm) : XPo := ⟨0, 0, 0, 0, 0, 0, 0, 0, k, m⟩
def stA (y : Ly) (t : Int) : Int := atM t y.T (IntKind.i64.wrap (y.tb + 0)) 5
/-- The memory behind the try to claim. -/
def clM (y : Ly) (n : Nat) (x : XTa) : Mm := x.p.m.acc n 3 (stA y x.v) (casV (x.p.m.hit n (stA y x.v) 1) (x.p.m.val n (stA y x.v)) 2)
/-- 0: a Pop, line 1; 1: a Pop inside it; 2: a Clear inside it; 3: a Claim. -/
def taStep (y : Ly) (n : Nat) (w : Int) (nr : Nat) : Nat × XTa → Option ((Nat × XTa) × Option (Int × Int))
  | (3, x) => if x.p.m.hit n (stA y x.v) 1 = true then
      if 0 ≤ x.v ∧ x.v < nr then (if x.st x.v.toNat = true then some ((3, ⟨noPo (x.p.k + 1) (clM y n x), x.l.put 9 w x.v, x.st, x.v⟩), some (1, x.v)) else some ((3, ⟨noPo (x.p.k + 1) (clM y n x), x.l.put 5 w x.v, fun e => if e = x.v.toNat then true else x.st e, x.v⟩), some (1, x.v)))
      else none
    else some ((0, ⟨noPo (x.p.k + 1) (clM y n x), x.l.put 15 w x.v, x.st, 0⟩), none)
  | (q, x) => match popStep y n w (q, x.p) with
    | ((q, p), none) => some ((q, ⟨p, x.l, x.st, 0⟩), none)
    | ((_, p), some (c, v)) => if c = 2 then some ((q, ⟨p, x.l, x.st, 0⟩), some (2, 0)) else some ((3, ⟨noPo p.k p.m, x.l, x.st, v⟩), none)
def taRun (y : Ly) (n : Nat) (w : Int) (nr : Nat) : Nat → Nat × XTa → Option Rt
  | 0, x => some ⟨⟨-1, 0, x.2.p.k, x.2.p.m, x.2.l⟩, x.2.st⟩
  | f + 1, x => match taStep y n w nr x with
    | none => none
    | some (x', none) => taRun y n w nr f x'
    | some (x', some r) => some ⟨⟨r.1, r.2, x'.2.p.k, x'.2.p.m, x'.2.l⟩, x'.2.st⟩
def taR (y : Ly) (n : Nat) (w : Int) (nr : Nat) (M : Nat) (m : Mm) (l : El) (st : Nat → Bool) : Option Rt := taRun y n w nr M (0, ⟨noPo 0 m, l, st, 0⟩)
noncomputable section
def tTa : TypeId := 192
def tCla : TypeId := 163
def envT (y : Ly) (km ke kr : Nat) (ne nc nr cr : Nat) : Blk := .own 47 26 ([none, none, none, none, none, none, none, none, none, none, none] ++ y.l.map some ++ [some (.ptr km (.k 0) (.k 0) 0 6), none, some (.slc kr (.k 0) (.k 0) 7 (.s nr) (.s cr)), some (.slc ke (.k 0) (.k 0) 5 (.s ne) (.s nc))])
def recB (n c : Nat) (st : Nat → Bool) : Blk := .row 94 c n [.cu, .cu, .cu, .cu, .cu, .cu, .cb fun _ e => st e]
def colBl : Col → Option (Nat → Bool)
  | .cb g => some fun e => g 0 e
  | _ => none
def rdSt (k : Nat) (h : HL) : Option (Nat → Bool) := match find k h with
  | some b => match colsB b with
    | [_, _, _, _, _, _, c] => match colBl c with
      | some g => some fun e => g e
      | none => none
    | _ => none
  | none => none
def memH (len cap : NV) (m : Mm) : HL := [(1, .own 141 6 ([.slc 2 (.k 0) (.k 0) 1 len cap, i6 m.lk, i6 m.lc, uw m.lo, uw m.ln, i6 m.ct].map some)), (2, .row 58 cap.v len.v [.ci .u64 fun _ e => m.g e])]
def mTa (w : Int) (cl : Bool) (ins : SC) : Blk := .own 194 6 ([.kb false, .ki .i64 0, .ki .i64 0, i6 w, .kb cl, ins].map some)
def mCla (w v : Int) : Blk := .own 165 5 ([.kb false, .ki .i64 0, .ki .i64 0, i6 w, i6 v].map some)
def hTa (y : Ly) (len cap : NV) (w : Int) (m : Mm) (l : El) (nc : Nat) (nr cr : Nat) (st : Nat → Bool) : HL := [(0, envT y 1 4 6 l.n nc nr cr)] ++ memH len cap m ++ [(3, mTa w false (.ifc tPop 5 (.k 0) (.k 0) 0 7)), (4, .row 80 nc l.n l.v.cols), (5, mPop w 0 (.ki .i64 1) .nilI), (6, recB nr cr st)]
def findO (ts : List TypeId) : HL → Nat
  | [] => 0
  | (k, b) :: r => match b with
    | .fam _ _ _ _ [] => k
    | .view _ _ [] => k
    | .own t _ _ => match mem t ts with
      | true => k
      | false => findO ts r
    | _ => findO ts r
def inT1 (s : St) : Nat := match bCell (tmK 1 s) 5 s.H.h with
  | some (.ifc _ k _ _ _ _) => k
  | _ => 0
def inT2 (s : St) : Nat := match bCell (inT1 s) 6 s.H.h with
  | some (.ifc _ k _ _ _ _) => k
  | _ => findO [271, 268] s.H.h
def rdTa (kr : Nat) (s : St) : Option (Nat × XTa × Nat) := match tmI 8 s, rdMm s.H.h (envM 0 s), rdEl 0 s, rdSt kr s.H.h, bCell (tmK 1 s) 5 s.H.h with
  | some k, some x, some (e, nc), some st, some (.ifc ty ki _ _ _ _) => match Nat.beq ty tCla with
    | true => match cellI ki 4 s.H.h with
      | some v => some (3, ⟨noPo k.toNat x.m, e, st, v⟩, nc)
      | none => none
    | false => match cellI ki 4 s.H.h, bCell ki 6 s.H.h with
      | some lv, some (.ifc t kj _ _ _ _) => match Nat.beq t tPopO with
        | true => match cellI kj 3 s.H.h, cellI kj 4 s.H.h, cellI kj 5 s.H.h, cellI kj 6 s.H.h, cellI kj 7 s.H.h, cellI kj 8 s.H.h, cellI kj 9 s.H.h with
          | some a, some b, some c, some d, some l, some u, some v => some (1, ⟨⟨lv, a, b, c, d, l, u, v, k.toNat, x.m⟩, e, st, 0⟩, nc)
          | _, _, _, _, _, _, _ => none
        | false => match cellI kj 5 s.H.h, cellI kj 6 s.H.h, cellI kj 7 s.H.h, cellI kj 8 s.H.h, cellI kj 9 s.H.h, cellI kj 10 s.H.h with
          | some a, some b, some c, some d, some l, some u => some (2, ⟨⟨lv, a, b, c, d, l, u, 0, k.toNat, x.m⟩, e, st, 0⟩, nc)
          | _, _, _, _, _, _ => none
      | some lv, some .nilI => some (0, ⟨⟨lv, 0, 0, 0, 0, 0, 0, 0, k.toNat, x.m⟩, e, st, 0⟩, nc)
      | _, _ => none
  | _, _, _, _, _ => none
def okTa (y : Ly) (n : Nat) (w : Int) (nr M : Nat) (R : Rt) (x : Nat × XTa × Nat) : Prop := x.1 < 4 ∧ x.2.1.p.k ≤ M ∧ (∀ e, 0 ≤ x.2.1.p.m.g e ∧ x.2.1.p.m.g e ≤ 18446744073709551615) ∧ (0 ≤ x.2.1.p.b ∧ x.2.1.p.b ≤ 18446744073709551615) ∧ (0 ≤ x.2.1.p.t ∧ x.2.1.p.t ≤ 18446744073709551615) ∧ x.2.1.p.qc ≤ 9223372036854775807 ∧ (x.2.1.l.n ≤ x.2.2 ∧ x.2.1.l.n ≤ 1000 + x.2.1.p.k) ∧ taRun y n w nr (M - x.2.1.p.k) (x.1, x.2.1) = some R
def envRk (s : St) : Nat := match bCell (tmK 0 s) 24 s.H.h with
  | some (.slc k _ _ _ _ _) => k
  | _ => 0
def laTa (y : Ly) (w : Int) (nr cr M : Nat) (I : Nat × XTa × Nat → Prop) (s : St) : Option (LA (Nat × XTa × Nat)) := match memBs 0 s, find (tmK 0 s) s.H.h with
  | some mb, some (.own te se cs) => fN (envE 0 s) fun ke => fN (inT1 s) fun k1 => fN (inT2 s) fun k2 => fN (envRk s) fun kr => some ⟨[(tmK 1, true), (envM 0, true), (envC 0, true), (tmK 0, true), (envE 0, false), (inT1, false), (inT2, false), (envRk, true)],
      fun x => (match x.1 with
        | 3 => mTa w true (.ifc tCla k1 (.k 0) (.k 0) 0 5)
        | _ => mTa w false (.ifc tPop k1 (.k 0) (.k 0) 0 7)) :: (mb x.2.1.p.m ++ [.own te se (cs.set 25 (some (.slc ke (.k 0) (.k 0) 5 (.s x.2.1.l.n) (.s x.2.2)))), .row 80 x.2.2 x.2.1.l.n x.2.1.l.v.cols] ++ (match x.1 with
        | 0 => [mPop w x.2.1.p.lv (.ki .i64 1) .nilI, dumB]
        | 1 => [mPop w x.2.1.p.lv (.ki .i64 2) (.ifc tPopO k2 (.k 0) (.k 0) 0 10), mPopO x.2.1.p]
        | 2 => [mPop w x.2.1.p.lv (.ki .i64 3) (.ifc tClr k2 (.k 0) (.k 0) 0 11), mClr (atM w y.W y.bm 1) x.2.1.p]
        | _ => [mCla w x.2.1.v, dumB]) ++ [recB nr cr x.2.1.st]),
      [8], fun x => [.c (i6 x.2.1.p.k)], fun s => fN (envRk s) fun kr => rdTa kr s, I, fun x => M - x.2.1.p.k⟩
  | _, _ => none
def hTe (y : Ly) (len cap : NV) (nr cr : Nat) (r : Rt) (nc : Nat) : HL := [(0, envT y 1 7 6 r.r.l.n nc nr cr)] ++ memH len cap r.r.m ++ [(6, recB nr cr r.st), (7, .row 80 nc r.r.l.n r.r.l.v.cols)]
def rdRt (s : SV) (H : Hp) : Option (Rt × Nat) := match rdRe s H, rdSt 6 H.h with
  | some x, some st => some (⟨x.1, st⟩, x.2.1)
  | _, _ => none
def finTa (y : Ly) (len cap : NV) (nr cr : Nat) (φ : Rt × Nat → Prop) : SV → Hp → V := finV (X := Rt × Nat) 7 8 rdRt (fun _ H => keyEv H) φ (fun r => svRe r.1.r) (fun r => hTe y len cap nr cr r.1 r.2)
def verTa (y : Ly) (n cap : Nat) (w : Int) (nr cr M : Nat) (m : Mm) (l : El) (nc : Nat) (st : Nat → Bool) (I : Nat × XTa × Nat → Prop) (φ : Rt × Nat → Prop) : V := verF P conTA 14 12 35 [] (.loopS 4 (XTa × Nat) [.ren (envE 0), .ren inT1, .newFam 0 []] (laTa y w nr cr M I) .nil .nil)
  (argsAl tTa 6 M) ⟨hTa y (.s n) (.s cap) w m l nc nr cr st, 7, fun _ => True⟩ (finTa y (.s n) (.s cap) nr cr φ)
end
end Go.Proofs.Ytomaagmleafjeaa.Md
