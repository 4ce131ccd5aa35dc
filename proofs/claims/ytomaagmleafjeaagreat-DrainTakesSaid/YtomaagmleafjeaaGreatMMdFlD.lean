/- Drain's statements: an environment whose injector is filled: what is asked. -/
import Derived.Test.YtomaagmleafjeaaGreatMMdDrK
import Derived.Test.YtomaagmleafjeaaGreatMMdNewN
import Derived.Test.YtomaagmleafjeaaGreatMMdTk
set_option linter.unusedVariables false
set_option linter.unusedSimpArgs false
set_option linter.unusedVariables false
set_option maxRecDepth 100000
namespace Go.Proofs.YtomaagmleafjeaaGreat.Md
open Go Go.RowKit Sx Cn Dc Ck Vc
/-- The layout of the statements of chapter 23: the room of a deque, the first cell of the tasks. -/
def yF (D tb : Int) : Ly := ⟨1, 3, 1, 8, D, 8, 12, 13, 14, 15, tb⟩
def dF (g : Nat → Int) (i : Nat) : Int := IntKind.i64.wrap ((IntKind.u8.wrap ((g i).tdiv 3)).tmod 8)
def lF (g : Nat → Int) (i : Nat) : Int := IntKind.u64.wrap ((g i).tmod 3)
/-- The memory behind i insertions. -/
def filM (D tb : Int) (n : Nat) (g : Nat → Int) : Nat → Mm
  | 0 => ⟨fun _ => 0, 0, 0, 0, 0, 0⟩
  | i + 1 => (((inR (yF D tb) n (dF g i) i 200 (filM D tb n g i)).m.acc n 2 (tb + i * 5 + 1) (lF g i)).acc n 2 (tb + i * 5 + 0) 1)
structure XFl where
  d : Cf
  rc : Nat
  n : Nat
  tb : Int
  m : Mm
noncomputable section
def fFil : FuncId := 6
def c23 (c : Cf) : Cf := { c with W := 1, L := 3, C := 1, T := 8, H := 8, A := 0, P := 1 }
def m23 : Mk := ⟨true, true, true, true, false, true, false, true, true⟩
def argF (c : Cf) : SV := .a [.ki .i64 1, .ki .i64 3, .ki .i64 1, .ki .i64 8, i6 c.D, .ki .i64 8, i6 c.B, .ki .i64 0, .ki .i64 1, slK 0 1 c.nP c.rc, slK 1 3 c.nU c.cu]
def layF (D tb : Int) : List SC := [.ki .i64 1, .ki .i64 3, .ki .i64 1, .ki .i64 8, i6 D, .ki .i64 8, .ki .i64 12, .ki .i64 13, .ki .i64 14, .ki .i64 15, i6 tb]
def envF (c : Cf) (x : XFl) : Blk := .own 45 26 ((cfK m23 9 10 (c23 c) x.d ++ layF c.D x.tb ++ ([.ptr 5 (.k 0) (.k 0) 0 6, .ptr 7 (.k 0) (.k 0) 0 2, slN true false 8 7 8 x.rc, .nils] : List SC)).map some)
def hFl (c : Cf) (x : XFl) : HL := [(4, envF c x), (5, .own 75 6 ([.slc 6 (.k 0) (.k 0) 1 (.s x.n) (.s x.n), i6 x.m.lk, i6 x.m.lc, uw x.m.lo, uw x.m.ln, i6 x.m.ct].map some)), (6, .row 48 x.n x.n [.ci .u64 fun _ e => x.m.g e]), (7, clkK), (8, freshK true 8 x.rc)] ++ hOwn 9 x.d
def rdFl (s : SV) (H : Hp) : Option XFl := match cfE (tupK s) H.h, capOf (keyF 24 (tupK s) H.h) H.h, rdMm H.h (keyF 22 (tupK s) H.h), cellI (tupK s) 21 H.h with
  | some d, some rc, some x, some tb => some ⟨d, rc, x.len.v, tb, x.m⟩
  | _, _, _, _ => none
def φFl (c : Cf) (g : Nat → Int) (len : Nat) (x : XFl) : Prop := IsCl (c23 c) x.d ∧ 8 ≤ x.rc ∧ (x.n = ncN (c23 c) ∧ x.tb = lT (c23 c)) ∧ x.m = filM c.D x.tb x.n g (min len 8)
def finFl (c : Cf) (φ : XFl → Prop) : SV → Hp → V := finV (X := XFl) 4 12 rdFl (fun s H => keysE (tupK s) H.h) φ (fun _ => .t [.c (.ptr 4 (.k 0) (.k 0) 0 26), .c (.kb true)]) (hFl c)
structure XI1 where
  i : Nat
  m : Mm
def rdI1 (te ti : Nat) (s : St) : Option XI1 := match tmI ti s, rdMm s.H.h (envM te s) with
  | some i, some x => some ⟨i.toNat, x.m⟩
  | _, _ => none
def laFl (L : Nat) (I : XI1 → Prop) (s : St) : Option (LA XI1) := match memBs 6 s with
  | some mb => some ⟨[(envM 6, true), (envC 6, true)], fun x => mb x.m, [8], fun x => [.c (i6 x.i)], rdI1 6 8, I, fun x => L - x.i⟩
  | none => none
def conFl : Con := Con.add fAl cAlZ (Con.add fTk cTk (conL (conN conWN)))
theorem conFl_ok : ConOK P conFl := .add cAlZ_ok (.add cTk_ok (conL_ok (conN_ok conWN_ok)))
def verFl (c : Cf) (g : Nat → Int) (len cap : Nat) (I : XI1 → Prop) (φ : XFl → Prop) : V := verF P conFl 12 12 fFil [] (.loop XI1 [] (laFl (min len 8) I) .nil .nil) [argF c, .c (slK 3 1 len cap)] ⟨hC (c23 c) ++ [(3, ints .u8 len g)], 4, fun _ => True⟩ (finFl c φ)
end
end Go.Proofs.YtomaagmleafjeaaGreat.Md
