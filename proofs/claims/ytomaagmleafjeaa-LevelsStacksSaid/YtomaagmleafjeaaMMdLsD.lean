/- LevelsStacks: the law: what is asked. -/
import Derived.Test.YtomaagmleafjeaaMMdLbD
import Derived.Test.YtomaagmleafjeaaMMdLsL
import Derived.Test.YtomaagmleafjeaaML
set_option linter.unusedVariables false
set_option linter.unusedSimpArgs false
set_option linter.unusedVariables false
set_option maxRecDepth 100000
namespace Go.Proofs.Ytomaagmleafjeaa.Md
open Go Go.RowKit Sx Cn Dc Ck Vc
structure XLs where
  i : Nat
  m : Mm
  ls : Nat → Nat
  cp : Nat → Nat
  S : Nat → Nat → Int
noncomputable section
abbrev kLs (b : Int) : Int := IntKind.i64.wrap (1 + IntKind.i64.wrap (b.tmod (Int.ofNat 4)))
def okLs (N D : Int) (n len : Nat) (x : XLs) : Prop := x.i ≤ len ∧ Ws (yW N D) n N.toNat x.m x.ls x.S ∧ (∀ v, v < N.toNat → x.m.g (Tq (yW N D) v + 1).toNat ≤ x.i) ∧ ∀ v, x.ls v ≤ x.cp v
def famO (k : Nat) (H : HL) : Nat := match find k H with
  | some (.row _ _ _ [.cs f _ _ _ _]) => f
  | _ => 0
def pkS : St → Nat := tkey 11
def fkS (s : St) : Nat := famO (pkS s) s.H.h
def rowS (s : St) : Option (Nat → Nat) := match find (pkS s) s.H.h with
  | some (.row _ _ _ [.cs _ _ _ l _]) => some fun e => l 0 e
  | _ => none
def famS (s : St) : Option ((Nat → Nat) × (Nat → Nat → Int)) := match find (fkS s) s.H.h with
  | some (.fam _ _ cp _ [.ci _ S]) => some (cp, S)
  | _ => none
def rdLs (s : St) : Option XLs := match tmI 12 s, rdMm s.H.h (envM 9 s), rowS s, famS s with
  | some i, some x, some l, some (c, S) => some ⟨i.toNat, x.m, l, c, S⟩
  | _, _, _, _ => none
def laLs (N D : Int) (len : Nat) (s : St) : Option (LA XLs) := match memBs 9 s, find (envC 9 s) s.H.h with
  | some mb, some (.row _ _ n _) => some ⟨[(envM 9, true), (envC 9, true), (pkS, true), (fkS, false)],
    fun x => mb x.m ++ [.row 28 N.toNat N.toNat [.cs (fkS s) 1 (fun _ e => e) (fun _ e => x.ls e) (fun _ e => x.cp e)], .fam true 3 x.cp x.ls [.ci .i64 x.S]], [12], fun x => [.c (i6 x.i)], rdLs, okLs N D n len, fun x => len - x.i⟩
  | _, _ => none
def laLs2 (N : Int) (s : St) : Option (LA Int) := (rowS s).map fun l => ⟨[], fun _ => [], [17], fun v => [.c (i6 v)], fun s => tmI 17 s, fun v => -1 ≤ v ∧ v < N ∧ ∀ u : Nat, v < (u : Int) → u < N.toNat → l u = 0, fun v => (v + 1).toNat⟩
def verLs (a b : Int) (g : Nat → Int) (len cap : Nat) : V := verF P conLb 12 12 4 [(10, .joinIf pkS 0)] (.loop XLs [.nilCol pkS 0 3 1 [.ci .i64 fun _ _ => 0]] (laLs (nLb a) (kLs b) len) (.loop Int [] (laLs2 (nLb a)) .nil .nil) .nil) [.c (.iv .u8 a), .c (.iv .u8 b), .c (slK 0 1 len cap)] ⟨[(0, ints .i64 len g)], 1, fun _ => True⟩ yesV
end
end Go.Proofs.Ytomaagmleafjeaa.Md
