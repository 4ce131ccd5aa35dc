/- A step of Take: what is asked. -/
import Derived.Test.YtomaagmleafjeaaMMdTaD
set_option linter.unusedVariables false
set_option linter.unusedSimpArgs false
set_option maxRecDepth 100000
namespace Go.Proofs.Ytomaagmleafjeaa.Md
open Go Go.RowKit Sx Cn Dc Ck Vc
/-- What a step leads to: the state of the machine, or its result; the numbers. -/
structure XTs where
  x : XTa
  nc : Nat
noncomputable section
def fTs : FuncId := 264
def qB (y : Ly) (w : Int) (q : Nat) (x : XTa) (k5 k6 : Nat) : List Blk := match q with
  | 0 => [mTa w false (.ifc tPop k5 (.k 0) (.k 0) 0 7), mPop w x.p.lv (.ki .i64 1) .nilI, dumB]
  | 1 => [mTa w false (.ifc tPop k5 (.k 0) (.k 0) 0 7), mPop w x.p.lv (.ki .i64 2) (.ifc tPopO k6 (.k 0) (.k 0) 0 10), mPopO x.p]
  | 2 => [mTa w false (.ifc tPop k5 (.k 0) (.k 0) 0 7), mPop w x.p.lv (.ki .i64 3) (.ifc tClr k6 (.k 0) (.k 0) 0 11), mClr (atM w y.W y.bm 1) x.p]
  | _ => [mTa w true (.ifc tCla k5 (.k 0) (.k 0) 0 5), mCla w x.v, dumB]
/-- Blocks whose contents are not said. -/
def junkB (t sz : Nat) : Blk := .own t sz []
def h0Ts (y : Ly) (len cap : NV) (w : Int) (q : Nat) (x : XTa) (nc nr cr : Nat) : HL := [(0, envT y 1 4 7 x.l.n nc nr cr)] ++ memH len cap x.p.m ++ zipK [3, 5, 6] (qB y w q x 5 6) ++ [(4, .row 80 nc x.l.n x.l.v.cols), (7, recB nr cr x.st)]
/-- What is left: the environment's blocks; the machine's are given. -/
def heTs (y : Ly) (len cap : NV) (x : XTa) (nc nr cr ke : Nat) (l : HL) : HL := [(0, envT y 1 ke 7 x.l.n nc nr cr)] ++ memH len cap x.p.m ++ l ++ [(7, recB nr cr x.st), (ke, .row 80 nc x.l.n x.l.v.cols)]
def ifK (k f : Nat) (h : HL) : Nat := match bCell k f h with
  | some (.ifc _ j _ _ _ _) => j
  | _ => 0
def ifT (k f : Nat) (h : HL) : Nat := match bCell k f h with
  | some (.ifc t _ _ _ _ _) => t
  | _ => 0
/-- The machine's numbers, by the state that it is in. -/
def rdTs (q : Nat) (s : SV) (H : Hp) : Option XTs := match rdMm H.h 1, bCell 0 25 H.h, rdSt 7 H.h with
  | some x, some (.slc ke _ _ _ m c), some st => match rdEv ke H.h with
    | some ev => match q with
      | 3 => match cellI (ifK 3 5 H.h) 4 H.h with
        | some v => some ⟨⟨noPo 1 x.m, ⟨m.v, ev⟩, fun i => st i, v⟩, c.v⟩
        | none => none
      | 4 => match cellI 3 2 H.h with
        | some v => some ⟨⟨noPo 1 x.m, ⟨m.v, ev⟩, fun i => st i, v⟩, c.v⟩
        | _ => none
      | 5 => some ⟨⟨noPo 1 x.m, ⟨m.v, ev⟩, fun i => st i, 0⟩, c.v⟩
      | q => fN (ifK 3 5 H.h) fun k5 => fN (ifK k5 6 H.h) fun k6 => match cellI k5 4 H.h with
        | some lv => match q with
          | 0 => some ⟨⟨⟨lv, 0, 0, 0, 0, 0, 0, 0, 1, x.m⟩, ⟨m.v, ev⟩, fun i => st i, 0⟩, c.v⟩
          | 1 => match cellI k6 3 H.h, cellI k6 4 H.h, cellI k6 5 H.h, cellI k6 6 H.h, cellI k6 7 H.h, cellI k6 8 H.h, cellI k6 9 H.h with
            | some a, some b, some c', some d, some l, some u, some v => some ⟨⟨⟨lv, a, b, c', d, l, u, v, 1, x.m⟩, ⟨m.v, ev⟩, fun i => st i, 0⟩, c.v⟩
            | _, _, _, _, _, _, _ => none
          | _ => match cellI k6 5 H.h, cellI k6 6 H.h, cellI k6 7 H.h, cellI k6 8 H.h, cellI k6 9 H.h, cellI k6 10 H.h with
            | some a, some b, some c', some d, some l, some u => some ⟨⟨⟨lv, a, b, c', d, l, u, 0, 1, x.m⟩, ⟨m.v, ev⟩, fun i => st i, 0⟩, c.v⟩
            | _, _, _, _, _, _ => none
        | none => none
    | none => none
  | _, _, _ => none
def keyE (H : Hp) : Nat := match bCell 0 25 H.h with
  | some (.slc ke _ _ _ _ _) => ke
  | _ => 0
/-- The state that a step leads to is read off what is there. -/
def inTs (q : Nat) (s : SV) (H : Hp) : Bool := match s with
  | .c (.kb true) => Nat.ble 4 q
  | _ => match Nat.beq (ifT 3 5 H.h) tCla with
    | true => Nat.beq q 3
    | false => match Nat.beq (ifT (ifK 3 5 H.h) 6 H.h) tPopO with
      | true => Nat.beq q 1
      | false => match Nat.beq (ifT (ifK 3 5 H.h) 6 H.h) tClr with
        | true => Nat.beq q 2
        | false => Nat.beq q 0
/-- The machine's blocks behind a step from state q to state r; those that it no longer needs hold something. -/
def lTs (y : Ly) (w : Int) (q r : Nat) (x : XTa) : HL := match r with
  | 4 => [(3, .own 194 6 (([.kb true, .ki .i64 1, i6 x.v] : List SC).map some ++ [none, none, none])), (5, junkB 165 5)]
  | 5 => [(3, .own 194 6 (([.kb true, .ki .i64 2, .ki .i64 0] : List SC).map some ++ [none, none, none])), (5, junkB 137 7)]
  | 3 => zipK [3, 9] ((qB y w 3 x 9 6).take 2) ++ [(5, junkB 137 7), (6, junkB 271 10)]
  | 0 => match q with
    | 2 => zipK [3, 5] ((qB y w 0 x 5 6).take 2) ++ [(6, junkB 268 11)]
    | _ => zipK [3, 9] ((qB y w 0 x 9 6).take 2) ++ [(5, junkB 165 5)]
  | r => match Nat.beq q r with
    | true => zipK [3, 5, 6] (qB y w r x 5 6)
    | false => zipK [3, 5, 9] (qB y w r x 5 9) ++ (match q with
      | 1 => [(6, junkB 271 10)]
      | _ => [])
/-- The keys of what is new: the events; the machine inside, if it is new. -/
def kyTs (q r : Nat) (s : SV) (H : Hp) : List Nat := match r with
  | 4 => [keyE H]
  | 5 => [keyE H]
  | 3 => [keyE H, ifK 3 5 H.h]
  | 0 => match q with
    | 2 => [keyE H]
    | _ => [keyE H, ifK 3 5 H.h]
  | r => match Nat.beq q r with
    | true => [keyE H]
    | false => [keyE H, ifK (ifK 3 5 H.h) 6 H.h]
def lfTs (y : Ly) (len cap : NV) (w : Int) (q nr cr : Nat) (φ : Nat → XTs → Prop) (r : Nat) : PS := .leaf XTs 10 (rdTs r) (kyTs q r) (φ r) (fun _ => .c (.kb (Nat.ble 4 r))) (fun z => heTs y len cap z.x z.nc nr cr 8 (lTs y w q r z.x))
def psTs (y : Ly) (len cap : NV) (w : Int) (q nr cr : Nat) (b : Nat → Bool) (φ : Nat → XTs → Prop) : PS := match q with
  | 0 => .br (b 4) (inTs 5) (lfTs y len cap w 0 nr cr φ 5) (lfTs y len cap w 0 nr cr φ 1)
  | 1 => .br (b 1) (inTs 1) (lfTs y len cap w 1 nr cr φ 1) (.br (b 2) (inTs 2) (lfTs y len cap w 1 nr cr φ 2) (lfTs y len cap w 1 nr cr φ 3))
  | 2 => .br (b 2) (inTs 2) (lfTs y len cap w 2 nr cr φ 2) (lfTs y len cap w 2 nr cr φ 0)
  | _ => .br (b 4) (inTs 4) (lfTs y len cap w 3 nr cr φ 4) (lfTs y len cap w 3 nr cr φ 0)
def argTs : List SV := [.c (.ptr 3 (.k 0) (.k 0) 0 6), .c (.ptr 0 (.k 0) (.k 0) 0 26)]
def verTs (y : Ly) (n cap : Nat) (w : Int) (q : Nat) (x : XTa) (nc nr cr : Nat) (b : Nat → Bool) (φ : Nat → XTs → Prop) : V := verF P conTA 14 12 fTs [(0, .ren fun _ => 4)] .nil argTs ⟨h0Ts y (.s n) (.s cap) w q x nc nr cr, 8, fun _ => True⟩ ((psTs y (.s n) (.s cap) w q nr cr b φ).fin 8)
end
end Go.Proofs.Ytomaagmleafjeaa.Md
