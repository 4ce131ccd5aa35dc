/- Walk alone, in the configuration of chapter 19: what is asked. -/
import Derived.Test.YtomaagmleafjeaaMMdRmD
import Derived.Test.YtomaagmleafjeaaMMd
import Derived.Test.YtomaagmleafjeaaMMdPuD
set_option linter.unusedVariables false
set_option linter.unusedSimpArgs false
set_option linter.unusedVariables false
set_option maxRecDepth 100000
namespace Go.Proofs.Ytomaagmleafjeaa.Md
open Go Go.RowKit Sx Cn Dc Ck Vc
/-- Task; the Raise's line and word; the Push's numbers; steps; memory, events. -/
structure XBc where
  t : Int
  rl : Int
  q : Int
  qt : Int
  qb : Int
  qr : Int
  qc : Int
  ln : Int
  b : Int
  k : Nat
  m : Mm
  l : El
  nc : Nat
noncomputable section
def tWk : TypeId := 169
def tRs : TypeId := 224
def lay19 : List SC := [.ki .i64 1, .ki .i64 3, .ki .i64 1, .ki .i64 8, .ki .i64 4, .ki .i64 1, .ki .i64 5, .ki .i64 6, .ki .i64 7, .ki .i64 8, .ki .i64 26]
def envB (ke : Nat) (ne nc : Nat) : Blk := .own 47 26 ([none, some (.ki .i64 3), none, some (.ki .i64 8), none, none, none, none, none, none, none] ++ lay19.map some ++ [some (.ptr 1 (.k 0) (.k 0) 0 6), none, none, some (.slc ke (.k 0) (.k 0) 5 (.s ne) (.s nc))])
def memB (m : Mm) : HL := [(1, .own 141 6 ([.slc 2 (.k 0) (.k 0) 1 (.k 66) (.k 66), i6 m.lk, i6 m.lc, uw m.lo, uw m.ln, i6 m.ct].map some)), (2, .row 58 66 66 [.ci .u64 fun _ e => m.g e])]
def mWk (t lv : Int) (line : SC) (ins : SC) : Blk := .own 171 8 ([.kb false, .ki .i64 0, .ki .i64 0, .ki .i64 0, i6 t, i6 lv, line, ins].map some)
def mRs (lv : Int) (x : XBc) : Blk := .own 226 8 ([.kb false, .ki .i64 0, .ki .i64 0, .ki .i64 0, i6 x.t, i6 lv, i6 x.rl, uw x.q].map some)
def mPw (lv t : Int) (line : SC) (ins : SC) : Blk := .own 134 8 ([.kb false, .ki .i64 0, .ki .i64 0, .ki .i64 0, i6 lv, i6 t, line, ins].map some)
def mPwO (x : XBc) : Blk := .own 263 10 ([.kb false, .ki .i64 0, .ki .i64 0, i6 x.qt, i6 x.qb, i6 x.qr, i6 x.qc, i6 x.t, i6 x.ln, uw x.b].map some)
def hBc (t lv : Int) (m : Mm) (l : El) (nc : Nat) : HL := (0, envB 4 l.n nc) :: (memB m ++ [(3, mWk t lv (.ki .i64 1) .nilI), (4, .row 80 nc l.n l.v.cols)])
def findT (j : Nat) (ts : List TypeId) : HL → Nat
  | [] => 0
  | (k, b) :: r => match b with
    | .fam _ _ _ _ cs => match Nat.beq cs.length j with
      | true => k
      | false => findT j ts r
    | .view _ _ cs => match Nat.beq cs.length j with
      | true => k
      | false => findT j ts r
    | .own t _ _ => match mem t ts with
      | true => k
      | false => findT j ts r
    | _ => findT j ts r
def dum2 : Blk := .view 0 (fun _ => 0) [.cu]
def in1 (s : St) : Nat := match bCell (tmK 1 s) 7 s.H.h with
  | some (.ifc _ k _ _ _ _) => k
  | _ => findT 0 [226, 134] s.H.h
def in2 (s : St) : Nat := match bCell (in1 s) 7 s.H.h with
  | some (.ifc _ k _ _ _ _) => k
  | _ => findT 1 [263, 182] s.H.h
def rdBc (s : St) : Option (Nat × XBc) := match tmI 8 s, rdMm s.H.h (envM 0 s), rdEl 0 s, cellI (tmK 1 s) 4 s.H.h, cellI (tmK 1 s) 6 s.H.h with
  | some k, some x, some (e, nc), some t, some w => match bCell (tmK 1 s) 7 s.H.h with
    | some (.ifc ty ki _ _ _ _) => match Nat.beq ty tRs with
      | true => match cellI ki 6 s.H.h, cellI ki 7 s.H.h with
        | some r, some q => some (1, ⟨t, r, q, 0, 0, 0, 0, 0, 0, k.toNat, x.m, e, nc⟩)
        | _, _ => none
      | false => match bCell ki 7 s.H.h with
        | some (.ifc ty kj _ _ _ _) => match Nat.beq ty tPushO with
          | true => match cellI kj 3 s.H.h, cellI kj 4 s.H.h, cellI kj 5 s.H.h, cellI kj 6 s.H.h, cellI kj 8 s.H.h, cellI kj 9 s.H.h with
            | some a, some b, some c, some d, some l, some u => some (4, ⟨t, 0, 0, a, b, c, d, l, u, k.toNat, x.m, e, nc⟩)
            | _, _, _, _, _, _ => none
          | false => some (5, ⟨t, 0, 0, 0, 0, 0, 0, 0, 0, k.toNat, x.m, e, nc⟩)
        | some .nilI => some (3, ⟨t, 0, 0, 0, 0, 0, 0, 0, 0, k.toNat, x.m, e, nc⟩)
        | _ => none
    | some .nilI => some ((bif decide (w = 1) then 0 else bif decide (w = 2) then 2 else 6), ⟨t, 0, 0, 0, 0, 0, 0, 0, 0, k.toNat, x.m, e, nc⟩)
    | _ => none
  | _, _, _, _, _ => none
def laBc (lv : Int) (M : Nat) (I : Nat × XBc → Prop) (s : St) : Option (LA (Nat × XBc)) := match memBs 0 s, find (tmK 0 s) s.H.h with
  | some mb, some (.own te se cs) => fN (envE 0 s) fun ke => fN (in1 s) fun k1 => fN (in2 s) fun k2 => some ⟨[(tmK 1, true), (envM 0, true), (envC 0, true), (tmK 0, true), (envE 0, false), (in1, false), (in2, false)],
      fun x => (match x.1 with
        | 0 => mWk x.2.t lv (.ki .i64 1) .nilI
        | 1 => mWk x.2.t lv (.ki .i64 1) (.ifc tRs k1 (.k 0) (.k 0) 0 8)
        | 2 => mWk x.2.t lv (.ki .i64 2) .nilI
        | 3 | 4 | 5 => mWk x.2.t lv (.ki .i64 3) (.ifc tPush k1 (.k 0) (.k 0) 0 8)
        | _ => mWk x.2.t lv (.ki .i64 4) .nilI) :: (mb x.2.m ++ [.own te se (cs.set 25 (some (.slc ke (.k 0) (.k 0) 5 (.s x.2.l.n) (.s x.2.nc)))), .row 80 x.2.nc x.2.l.n x.2.l.v.cols] ++ (match x.1 with
        | 1 => [mRs lv x.2, dum2]
        | 3 => [mPw lv x.2.t (.ki .i64 1) .nilI, dum2]
        | 4 => [mPw lv x.2.t (.ki .i64 1) (.ifc tPushO k2 (.k 0) (.k 0) 0 10), mPwO x.2]
        | 5 => [mPw lv x.2.t (.ki .i64 2) (.ifc tSet k2 (.k 0) (.k 0) 0 5), mSet 7 lv]
        | _ => [dumB, dum2])),
      [8], fun x => [.c (i6 x.2.k)], rdBc, I, fun x => M - x.2.k⟩
  | _, _ => none
def finBc (φ : Re × Nat → Prop) : SV → Hp → V := finV (X := Re × Nat) 5 6 (fun s H => (rdRe s H).map fun x => (x.1, x.2.1)) (fun _ H => keyEv H) φ (fun r => svRe r.1) (fun r => (0, envB 5 r.1.l.n r.2) :: (memB r.1.m ++ [(5, .row 80 r.2 r.1.l.n r.1.l.v.cols)]))
def verBc (t lv : Int) (m : Mm) (l : El) (nc : Nat) (I : Nat × XBc → Prop) (φ : Re × Nat → Prop) : V := verF P conNL 12 12 35 [] (.loopS 7 XBc [.ren (envE 0), .newFam 0 [], .newFam 0 [.cu]] (laBc lv 200 I) .nil .nil)
  (argsAl tWk 8 200) ⟨hBc t lv m l nc, 5, fun _ => True⟩ (finBc φ)
end
end Go.Proofs.Ytomaagmleafjeaa.Md
