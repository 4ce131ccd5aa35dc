/- DrainTakes: the law: what is asked. -/
import Derived.Test.YtomaagmleafjeaaGreatMMdBuD
import Derived.Test.YtomaagmleafjeaaGreatMMdIs
import Derived.Test.YtomaagmleafjeaaGreatMMdDtK
set_option linter.unusedVariables false
set_option linter.unusedSimpArgs false
set_option linter.unusedVariables false
set_option maxRecDepth 100000
namespace Go.Proofs.YtomaagmleafjeaaGreat.Md
open Go Go.RowKit Sx Cn Dc Ck Vc
/-- The list of tasks taken: round, length, room, contents. -/
structure XD1 where
  i : Nat
  n : Nat
  cp : Nat
  a : Nat → Int
/-- The stacks: round, lengths, rooms, contents. -/
structure XD2 where
  i : Nat
  ls : Nat → Nat
  cp : Nat → Nat
  S : Nat → Nat → Int
noncomputable section
def rdD1 (s : St) : Option XD1 := match tmI 16 s, find (tkey 15 s) s.H.h with
  | some i, some (.row _ cp n [.ci _ g]) => some ⟨i.toNat, n, cp, fun e => g 0 e⟩
  | _, _ => none
def laD1 (s : St) : Option (LA XD1) := match rdEl 9 s with
  | some (e, _) => some ⟨[(tkey 15, false)], fun x => [.row 3 x.cp x.n [.ci .i64 fun _ e => x.a e]], [16, 15],
      fun x => [.c (i6 x.i), .c (.slc (tkey 15 s) (.k 0) (.k 0) 1 (.s x.n) (.s x.cp))], rdD1, fun x => (x.i ≤ e.n ∧ x.n = x.i ∧ x.n ≤ x.cp) ∧ ∀ j, j < x.n → x.a j = e.v.t j, fun x => e.n - x.i⟩
  | none => none
def pkT : St → Nat := tkey 17
def famT (k : Nat) (H : HL) : Nat := match find k H with
  | some (.row _ _ _ [.cs f _ _ _ _]) => f
  | _ => 0
def fkT (s : St) : Nat := famT (pkT s) s.H.h
def rowT (s : St) : Option (Nat → Nat) := match find (pkT s) s.H.h with
  | some (.row _ _ _ [.cs _ _ _ l _]) => some fun e => l 0 e
  | _ => none
def famC (s : St) : Option ((Nat → Nat) × (Nat → Nat → Int)) := match find (fkT s) s.H.h with
  | some (.fam _ _ cp _ [.ci _ S]) => some (cp, S)
  | _ => none
/-- The tasks taken, as the state says. -/
def rdTk (s : St) : Option ((Nat → Nat) × Nat) := match find (tkey 15 s) s.H.h with
  | some b => match b, colsB b with
    | .row _ _ n _, [c] => (colG c).map fun g => (fun e => (g e).toNat, n)
    | .view _ n _, [.ci _ g] => some (fun e => (g 0 e).toNat, n 0)
    | _, _ => none
  | none => none
def rdD2 (s : St) : Option XD2 := match tmI 18 s, rowT s, famC s with
  | some i, some l, some (c, S) => some ⟨i.toNat, l, c, S⟩
  | _, _, _ => none
def okD2 (g : Nat → Int) (tk : Nat → Nat) (K : Nat) (x : XD2) : Prop := x.i ≤ K ∧ (∀ v, v < 3 → x.ls v = cntL (lvF g) tk x.i v) ∧ (∀ v, x.ls v ≤ x.cp v) ∧ ∀ i, i < x.i → x.S (lvF g (tk i)) (cntL (lvF g) tk i (lvF g (tk i))) = tk i
def laD2 (g : Nat → Int) (s : St) : Option (LA XD2) := match rdTk s with
  | some (tk, K) => some ⟨[(pkT, true), (fkT, false)], fun x => [.row 37 3 3 [.cs (fkT s) 1 (fun _ e => e) (fun _ e => x.ls e) (fun _ e => x.cp e)], .fam true 3 x.cp x.ls [.ci .i64 x.S]], [18], fun x => [.c (i6 x.i)], rdD2, okD2 g tk K, fun x => K - x.i⟩
  | none => none
def laD3 (s : St) : Option (LA Nat) := match tmI 11 s with
  | some N => some ⟨[], fun _ => [], [20], fun u => [.c (i6 u)], fun s => (tmI 20 s).map Int.toNat, fun u => (u : Int) ≤ N, fun u => (N - u).toNat⟩
  | none => none
def laD4 (s : St) : Option (LA (Nat × Bool)) := match rdTk s, tmI 20 s, tmI 18 s with
  | some (tk, _), some u, some i => some ⟨[], fun _ => [], [22, 21], fun x => [.c (i6 x.1), .c (.bv x.2)], fun s => match tmI 22 s, tmB 21 s with | some k, some b => some (k.toNat, b) | _, _ => none, fun x => (x.1 : Int) ≤ i + 1 ∧ x.2 = !usd tk x.1 u.toNat, fun x => (i + 1 - x.1).toNat⟩
  | _, _, _ => none
def laD5 (s : St) : Option (LA Nat) := some ⟨[], fun _ => [], [23], fun l => [.c (i6 l)], fun s => (tmI 23 s).map Int.toNat, fun l => l ≤ 3, fun l => 3 - l⟩
abbrev dDt (de : Int) : Int := IntKind.i64.wrap (Int.ofNat 1 + IntKind.i64.wrap (de.tmod (Int.ofNat 4)))
abbrev bDt (ba de : Int) : Int := IntKind.i64.wrap (Int.ofNat 1 + (IntKind.i64.wrap ba).tmod (dDt de))
def con23t (D B : Int) (N : Nat) (g : Nat → Int) : Con := Con.add fIs cIs (Con.add fAl (cAlT D B N g) con23)
theorem con23t_ok (D B : Int) (N : Nat) (g : Nat → Int) : ConOK P (con23t D B N g) := .add cIs_ok (.add (cAlT_ok D B N g) con23_ok)
def verDt (ba de : Int) (g : Nat → Int) (len cap : Nat) : V := verF P (con23t (dDt de) (bDt ba de) (min len 8) g) 12 12 3 [(7, gEv 9), (23, .joinIf pkT 0)]
  (.loop XD1 [.nilTmp 15 3 1 [.ci .i64 fun _ _ => 0]] laD1 .nil (.loop XD2 [.nilCol pkT 0 3 1 [.ci .i64 fun _ _ => 0]] (laD2 g) (.loop Nat [] laD3 (.loop (Nat × Bool) [] laD4 .nil .nil) .nil) (.loop Nat [] laD5 .nil .nil)))
  [.c (.iv .u8 ba), .c (.iv .u8 de), .c (slK 0 1 len cap)] ⟨[(0, ints .u8 len g)], 1, fun _ => True⟩ yesV
end
end Go.Proofs.YtomaagmleafjeaaGreat.Md
