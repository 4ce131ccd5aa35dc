/- AgingWhen: an environment in which a task waits: what is asked. -/
import Derived.Test.YtomaagmleafjeaaMMd
import Derived.Test.YtomaagmleafjeaaMMdNewN
import Derived.Test.YtomaagmleafjeaaMMdAl
set_option linter.unusedVariables false
set_option linter.unusedSimpArgs false
set_option linter.unusedVariables false
set_option maxRecDepth 100000
namespace Go.Proofs.Ytomaagmleafjeaa.Md
open Go Go.RowKit Sx Cn Dc Ck Vc
noncomputable section
def fWt : FuncId := 73
/-- The configuration of the statements of chapter 20, the period apart. -/
def c4 (c : Cf) : Cf := { c with W := 1, L := 4, C := 1, T := 4, D := 4, H := 1, B := 1, P := 1 }
def m4 : Mk := ⟨true, true, true, true, true, true, true, false, true⟩
def argW (c : Cf) : SV := .a [.ki .i64 1, .ki .i64 4, .ki .i64 1, .ki .i64 4, .ki .i64 4, .ki .i64 1, .ki .i64 1, i6 c.A, .ki .i64 1, slK 0 1 c.nP c.rc, slK 1 3 c.nU c.cu]
def z52 : Mm := ⟨fun _ => 0, 0, 0, 0, 0, 0⟩
def waitM (t l s : Int) : Mm := ((z52.acc 52 2 (32 + t * 5) 1).acc 52 2 (32 + t * 5 + 1) (IntKind.u64.wrap l)).acc 52 2 (32 + t * 5 + 4) (IntKind.u64.wrap s)
structure XWt where
  d : Cf
  rc : Nat
  m : Mm
  now : Int
def envW (c d : Cf) (rc : Nat) : Blk := .own 47 26 ((cfK m4 8 9 (c4 c) d ++ ([.ki .i64 1, .ki .i64 4, .ki .i64 1, .ki .i64 4, .ki .i64 4, .ki .i64 1, .ki .i64 5, .ki .i64 6, .ki .i64 7, .ki .i64 8, .ki .i64 32] : List SC) ++ ([.ptr 4 (.k 0) (.k 0) 0 6, .ptr 6 (.k 0) (.k 0) 0 2, slN true false 7 7 4 rc, .nils] : List SC)).map some)
def hWt (c : Cf) (x : XWt) : HL := [(3, envW c x.d x.rc), (4, .own 141 6 ([slN true true 5 1 52 52, i6 x.m.lk, i6 x.m.lc, uw x.m.lo, uw x.m.ln, i6 x.m.ct].map some)), (5, .row 58 52 52 [.ci .u64 fun _ e => x.m.g e]), (6, .own 176 2 [some (i6 x.now), some (.ki .i64 0)]), (7, freshK true 4 x.rc)] ++ hOwn 8 x.d
def rdWt (s : SV) (H : Hp) : Option XWt := match cfE (tupK s) H.h, capOf (keyF 24 (tupK s) H.h) H.h, rdMm H.h (keyF 22 (tupK s) H.h), cellI (keyF 23 (tupK s) H.h) 0 H.h with
  | some d, some rc, some x, some now => some ⟨d, rc, x.m, now⟩
  | _, _, _, _ => none
def φWt (c : Cf) (t l s now : Int) (x : XWt) : Prop := IsCl (c4 c) x.d ∧ 4 ≤ x.rc ∧ x.m = waitM t l s ∧ x.now = now
def finWt (c : Cf) (t l s now : Int) : SV → Hp → V := finV (X := XWt) 3 11 rdWt (fun s H => keysE (tupK s) H.h) (φWt c t l s now) (fun _ => .t [.c (.ptr 3 (.k 0) (.k 0) 0 26), .c (.kb true)]) (hWt c)
/-- The clock ticks. -/
def laWt (te ti : Nat) (now : Int) (s : St) : Option (LA Int) := match find (envK te s) s.H.h with
  | some (.own t sz [_, b]) => some ⟨[(envK te, true)], fun x => [.own t sz [some (i6 x), b]], [ti], fun x => [.c (i6 x)], tmI ti, fun x => 0 ≤ x ∧ x ≤ now, fun x => (now - x).toNat⟩
  | _ => none
def conLN : Con := conL (conN conWN)
theorem conLN_ok : ConOK P conLN := conL_ok (conN_ok conWN_ok)
def verWt (c : Cf) (t l s now : Int) : V := verF P conLN 12 12 fWt [] (.loop Int [] (laWt 12 14 now) .nil .nil) [argW c, iv t, iv l, iv s, iv now] ⟨hC (c4 c), 3, fun _ => True⟩ (finWt c t l s now)
end
end Go.Proofs.Ytomaagmleafjeaa.Md
