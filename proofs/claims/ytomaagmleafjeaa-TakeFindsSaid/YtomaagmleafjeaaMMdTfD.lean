/- TakeFinds: the law: what is asked. -/
import Derived.Test.YtomaagmleafjeaaMMdAw24
import Derived.Test.YtomaagmleafjeaaMMdEt
import Derived.Test.YtomaagmleafjeaaMMdTaM
set_option linter.unusedVariables false
set_option linter.unusedSimpArgs false
set_option linter.unusedVariables false
set_option maxRecDepth 100000
namespace Go.Proofs.Ytomaagmleafjeaa.Md
open Go Go.RowKit Sx Cn Dc Ck Vc
/-- The loop's number; the skipped ones: how many, room, which; what is wanted, its level, its place. -/
structure XF where
  i : Int
  n : Nat
  cp : Nat
  a : Nat → Int
  w : Int
  v : Int
  q : Int
noncomputable section
def rdXF (ti : Nat) (s : St) : Option XF := match tmI ti s, find (tkey 8 s) s.H.h, tmI 9 s, tmI 10 s, tmI 11 s with
  | some i, some (.row _ cp n [.ci _ g]), some w, some v, some q => some ⟨i, n, cp, fun e => g 0 e, w, v, q⟩
  | _, _, _, _, _ => none
def laXF (ti : Nat) (I : XF → Prop) (s : St) : Option (LA XF) := some ⟨[(tkey 8, false)], fun x => [.row 3 x.cp x.n [.ci .i64 fun _ e => x.a e]], [ti, 8, 9, 10, 11],
  fun x => [.c (i6 x.i), .c (.slc (tkey 8 s) (.k 0) (.k 0) 1 (.s x.n) (.s x.cp)), .c (i6 x.w), .c (i6 x.v), .c (i6 x.q)], rdXF ti, I, fun x => (x.i + 1).toNat⟩
def laXG (I : Int → XF → Prop) (s : St) : Option (LA XF) := match tmI 12 s with
  | some l => laXF 14 (I l) s
  | none => none
def laXH (I : Nat → Prop) (s : St) : Option (LA Nat) := match find (tkey 8 s) s.H.h with
  | some (.row _ _ n _) => some ⟨[], fun _ => [], [18], fun i => [.c (i6 i)], fun s => (tmI 18 s).map Int.toNat, I, fun i => n - i⟩
  | some (.view _ n _) => some ⟨[], fun _ => [], [18], fun i => [.c (i6 i)], fun s => (tmI 18 s).map Int.toNat, I, fun i => n 0 - i⟩
  | _ => none
def con24 : Con := Con.add 95 conYes (Con.add fAl cAlU (Con.add fLai cLa (Con.add fTk cTk (Con.add fEnt cEnt (Con.add fClW cClW (conN conWB))))))
theorem con24_ok : ConOK P con24 := .add aw24_ok (.add cAlU_ok (.add cLa_ok (.add cTk_ok (.add cEnt_ok (.add cClW_ok (conN_ok conWB_ok))))))
def verTf (g s : Nat → Int) (lg cg ls cs : Nat) (I1 : XF → Prop) (I2 : Int → XF → Prop) (I3 : Nat → Prop) : V := verF P con24 16 12 23 [(17, gEv 5)]
  (.loop XF [.nilTmp 8 3 1 [.ci .i64 fun _ _ => 0]] (laXF 12 I1) (.loop XF [] (laXG I2) .nil .nil) (.loop Nat [] (laXH I3) .nil .nil))
  [.c (slK 0 1 lg cg), .c (slK 1 1 ls cs)] ⟨[(0, ints .u8 lg g), (1, ints .u8 ls s)], 2, fun _ => True⟩ yesV
end
end Go.Proofs.Ytomaagmleafjeaa.Md
