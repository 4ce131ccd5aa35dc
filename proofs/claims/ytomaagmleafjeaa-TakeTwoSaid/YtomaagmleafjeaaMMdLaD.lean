/- Take's statements: an environment in whose deques tasks are laid: what is asked. -/
import Derived.Test.YtomaagmleafjeaaMMdTaK
import Derived.Test.YtomaagmleafjeaaMMdNewB
import Derived.Test.YtomaagmleafjeaaMMdTk
set_option linter.unusedVariables false
set_option linter.unusedSimpArgs false
set_option maxRecDepth 100000
namespace Go.Proofs.Ytomaagmleafjeaa.Md
open Go Go.RowKit Sx Cn Dc Ck Vc
/-- The layout of the statements of chapter 24. -/
def yT : Ly := ⟨1, 3, 1, 9, 8, 1, 5, 6, 7, 8, 38⟩
def lvT (g : Nat → Int) (i : Nat) : Int := IntKind.i64.wrap ((g i).tmod 3)
def tkT (g : Nat → Int) (i : Nat) : Int := IntKind.i64.wrap ((IntKind.u8.wrap ((g i).tdiv 3)).tmod 9)
def stT (s : Nat → Int) (i : Nat) : Int := IntKind.u64.wrap ((s i).tmod 5)
/-- The memory behind the states of t tasks; behind i entries. -/
def sttM (s : Nat → Int) : Nat → Mm
  | 0 => ⟨fun _ => 0, 0, 0, 0, 0, 0⟩
  | t + 1 => (sttM s t).acc 83 2 (38 + t * 5 + 0) (stT s t)
def laM (g s : Nat → Int) (k : Nat) : Nat → Mm
  | 0 => sttM s k
  | i + 1 => (puR yT 83 0 (lvT g i) (tkT g i) 20 (laM g s k i)).m
structure XLa where
  rc : Nat
  m : Mm
noncomputable section
def fLai : FuncId := 97
def envLa (km kr rc : Nat) : Blk := .own 47 26 ([none, none, none, none, none, none, none, none, none, none, none] ++ ([.ki .i64 1, .ki .i64 3, .ki .i64 1, .ki .i64 9, .ki .i64 8, .ki .i64 1, .ki .i64 5, .ki .i64 6, .ki .i64 7, .ki .i64 8, .ki .i64 38] : List SC).map some ++ [some (.ptr km (.k 0) (.k 0) 0 6), none, some (.slc kr (.k 0) (.k 0) 7 (.k 9) (.s rc)), some .nils])
def hLa (x : XLa) : HL := [(2, envLa 3 5 x.rc), (3, .own 141 6 ([.slc 4 (.k 0) (.k 0) 1 (.k 83) (.k 83), i6 x.m.lk, i6 x.m.lc, uw x.m.lo, uw x.m.ln, i6 x.m.ct].map some)), (4, .row 58 83 83 [.ci .u64 fun _ e => x.m.g e]), (5, recB 9 x.rc fun _ => false)]
def kPtr (k f : Nat) (h : HL) : Nat := match bCell k f h with
  | some (.ptr j _ _ _ _) => j
  | some (.slc j _ _ _ _ _) => j
  | _ => 0
def keysLa (s : SV) (H : Hp) : List Nat := match tupK s with
  | k => [k, kPtr k 22 H.h, kPtr (kPtr k 22 H.h) 0 H.h, kPtr k 24 H.h]
def rdLa (s : SV) (H : Hp) : Option XLa := match bCell (tupK s) 24 H.h, rdMm H.h (kPtr (tupK s) 22 H.h) with
  | some (.slc _ _ _ _ _ c), some x => some ⟨c.v, x.m⟩
  | _, _ => none
def φLa (g s : Nat → Int) (lg ls : Nat) (x : XLa) : Prop := 9 ≤ x.rc ∧ x.m = laM g s (min ls 9) (min lg 16)
def finLa (φ : XLa → Prop) : SV → Hp → V := finV (X := XLa) 2 6 rdLa keysLa φ (fun _ => .t [.c (.ptr 2 (.k 0) (.k 0) 0 26), .c (.kb true)]) hLa
structure XI2 where
  i : Nat
  m : Mm
def rdI2 (te ti : Nat) (s : St) : Option XI2 := match tmI ti s, rdMm s.H.h (envM te s) with
  | some i, some x => some ⟨i.toNat, x.m⟩
  | _, _ => none
def laI2 (ti L : Nat) (I : XI2 → Prop) (s : St) : Option (LA XI2) := match memBs 7 s with
  | some mb => some ⟨[(envM 7, true), (envC 7, true)], fun x => mb x.m, [ti], fun x => [.c (i6 x.i)], rdI2 7 ti, I, fun x => L - x.i⟩
  | none => none
def conLa : Con := Con.add fAl cAlU (Con.add fTk cTk (conL (conN conWB)))
theorem conLa_ok : ConOK P conLa := .add cAlU_ok (.add cTk_ok (conL_ok (conN_ok conWB_ok)))
def verLa (g s : Nat → Int) (lg cg ls cs : Nat) (I J : XI2 → Prop) (φ : XLa → Prop) : V := verF P conLa 12 12 fLai [] (.loop XI2 [] (laI2 9 (min ls 9) I) .nil (.loop XI2 [] (laI2 10 (min lg 16) J) .nil .nil)) [.c (slK 0 1 lg cg), .c (slK 1 1 ls cs)] ⟨[(0, ints .u8 lg g), (1, ints .u8 ls s)], 2, fun _ => True⟩ (finLa φ)
end
end Go.Proofs.Ytomaagmleafjeaa.Md
