/- Encode, of the program and of the reference: what is written; a number's writing. -/
import Derived.Test.YtjpnpaboahbncaaMVa
set_option linter.unusedVariables false
set_option linter.unusedSimpArgs false
set_option linter.unusedVariables false
set_option maxRecDepth 100000
namespace Go.Proofs.Ytjpnpaboahbncaa.Vc
open Go Go.RowKit Sx Cn Dc Ck
/-- What has been written: how many bytes, which, and whether a number did not fit. -/
structure Bw where
  n : Nat
  g : Nat → Int
  bad : Bool
def outB (v k : Int) : Bool := decide (v < 0) || decide (k ≤ v)
def putN (n : Nat) (v k : Int) : Nat := if outB v k = true then n else n + 1
def putG (n : Nat) (g : Nat → Int) (v k : Int) (e : Nat) : Int := if outB v k = true then g e else if e = n then IntKind.u8.wrap v else g e
def putB (b : Bool) (v k : Int) : Bool := b || outB v k
def Bw.put (s : Bw) (v k : Int) : Bw := ⟨putN s.n v k, fun e => putG s.n s.g v k e, putB s.bad v k⟩
def Bw.instr (c : Cf) (s : Bw) (o a b : Int) : Bw := if o = 0 then (s.put o 3).put (IntKind.i64.wrap (a - 1)) 4 else if o = 1 then ((s.put o 3).put a c.nP).put b c.L else (s.put o 3).put a 4
/-- The instructions of program i from the k-th on, m of them. -/
def putIs (c : Cf) (i : Nat) : Nat → Nat → Bw → Bw
  | _, 0, s => s
  | k, m + 1, s => putIs c i (k + 1) m (s.instr c (c.iO i k) (c.iA i k) (c.iB i k))
def putPs (c : Cf) : Nat → Nat → Bw → Bw
  | _, 0, s => s
  | i, m + 1, s => putPs c (i + 1) m (putIs c i 0 (c.lenP i) (s.put (c.lenP i) 6))
def putUs (c : Cf) : Nat → Nat → Bw → Bw
  | _, 0, s => s
  | i, m + 1, s => putUs c (i + 1) m (((s.put (c.uP i) c.nP).put (c.uL i) c.L).put (c.uD i) 16)
def Bw.nil : Bw := ⟨0, fun _ => 0, false⟩
def headB (c : Cf) : Bw := ((((((((((Bw.nil.put (IntKind.i64.wrap (c.W - 1)) 4).put (IntKind.i64.wrap (c.L - 1)) 4).put (IntKind.i64.wrap (c.C - 1)) (min 3 c.L)).put (IntKind.i64.wrap (c.T - 1)) 12).put (IntKind.i64.wrap (c.D - 1)) 4).put (IntKind.i64.wrap (c.H - 1)) 4).put (IntKind.i64.wrap (c.B - 1)) c.D).put c.A 6).put (IntKind.i64.wrap (c.P - 1)) 8).put (IntKind.i64.wrap ((c.nP : Int) - 1)) 4)
def encB (c : Cf) : Bw := putUs c 0 c.nU ((putPs c 0 c.nP (headB c)).put c.nU 6)
noncomputable section
/-- r: the reference's coder, or the program's writer. -/
def typW (r : Bool) : TypeId := match r with | true => 132 | false => 157
def sizeW (r : Bool) : Nat := match r with | true => 4 | false => 2
def outW (r : Bool) : Nat := match r with | true => 1 | false => 0
def badW (r : Bool) : Nat := match r with | true => 3 | false => 1
def layW (r : Bool) (s b : SC) : List (Option SC) := match r with | true => [none, some s, none, some b] | false => [some s, some b]
def blkW (r : Bool) (kb : Nat) (s : Bw) (cap : Nat) : Blk := .own (typW r) (sizeW r) (layW r (slK kb 1 s.n cap) (.bv s.bad))
def rowW (s : Bw) (cap : Nat) : Blk := .row 5 cap s.n [.ci .u8 fun _ e => s.g e]
def hW (r : Bool) (s : Bw) (cap : Nat) : HL := [(0, blkW r 1 s cap), (1, rowW s cap)]
/-- The capacity of a row. -/
def capOf (k : Nat) (H : HL) : Option Nat := match find k H with
  | some (.row _ c _ _) => some c
  | _ => none
/-- The name in a cell of a block. -/
def cellKey (k f : Nat) (H : HL) : Nat := match find k H with
  | some (.own _ _ cs) => match (cs[f]? : Option (Option SC)) with
    | some (some c) => Sx.keyOf c
    | _ => 0
  | _ => 0
/-- What a state says of the coder in temporary 5. -/
def rdW (r : Bool) (s : St) : Option (Bw × Nat) := match find (tkey 5 s) s.H.h with
  | some (.own _ _ cs) => match (cs[outW r]? : Option (Option SC)), (cs[badW r]? : Option (Option SC)) with
    | some (some (.slc kb _ _ _ n cap)), some (some b) => match asB (.c b), rowFn s.H.h kb 0 with
      | some (_, b), some g => some (⟨n.v, g, b⟩, cap.v)
      | _, _ => none
    | _, _ => none
  | _ => none
def keyW (r : Bool) (s : St) : Nat := cellKey (tkey 5 s) (outW r) s.H.h
def rdI (r : Bool) (t : Nat) (s : St) : Option (Int × Bw × Nat) := match intT t s, rdW r s with
  | some i, some x => some (i, x)
  | _, _ => none
/-- A loop that writes numbers; its counter is temporary t. -/
def laW (r : Bool) (t : Nat) (I : Int → Bw → Prop) (m : Nat) (s0 : St) : LA (Int × Bw × Nat) :=
  ⟨[(tkey 5, true), (keyW r, false)], fun x => [blkW r (keyW r s0) x.2.1 x.2.2, rowW x.2.1 x.2.2], [t], fun x => [iv x.1], rdI r t, fun x => I x.1 x.2.1 ∧ x.2.1.n ≤ x.2.2, fun x => m - x.1.toNat⟩
section
variable (c : Cf) (r : Bool) (ti tk tu : Nat)
def isE (T : Bw) (i : Nat) (k : Int) (s : Bw) : Prop := putIs c i k.toNat (c.lenP i - k.toNat) s = T
def usE (T : Bw) (i : Int) (s : Bw) : Prop := putUs c i.toNat (c.nU - i.toNat) s = T
def isI (T : Bw) (i : Nat) (k : Int) (s : Bw) : Prop := (i < c.nP ∧ c.nP ≤ 32 ∧ c.lenP i ≤ 32 ∧ 0 ≤ k ∧ k ≤ c.lenP i ∧ s.n ≤ 11 + 97 * i + 3 * k.toNat) ∧ isE c T i k s
def usI (T : Bw) (i : Int) (s : Bw) : Prop := (c.nU ≤ 64 ∧ 0 ≤ i ∧ i ≤ c.nU ∧ s.n ≤ 4000 + 3 * i.toNat) ∧ usE c T i s
def fI (s : St) : Option (LA (Int × Bw × Nat)) := match intT ti s, rdW r s with
  | some i, some x => some (laW r tk (isI c (putIs c i.toNat 0 (c.lenP i.toNat) x.1) i.toNat) (c.lenP i.toNat) s)
  | _, _ => none
def fU (s : St) : Option (LA (Int × Bw × Nat)) := (rdW r s).map fun x => laW r tu (usI c (putUs c 0 c.nU x.1)) c.nU s
end
end
end Go.Proofs.Ytjpnpaboahbncaa.Vc

