/- Heaps as lists (edf.Push, edf.Pop), by the copy: what is asked. -/
import Derived.Test.YtomaagmleafjeaaMMdEt
import Derived.Test.YtomaagmleafjeaaMMdHp
set_option linter.unusedVariables false
set_option linter.unusedSimpArgs false
set_option linter.unusedVariables false
set_option maxRecDepth 100000
namespace Go.Proofs.Ytomaagmleafjeaa.Md
open Go Go.RowKit Sx Cn Dc Ck Vc
noncomputable section
def fEP : FuncId := 54
def fEO : FuncId := 55
def conEd : Con := Con.add fClW cClW con0
theorem conEd_ok : ConOK P conEd := .add cClW_ok ConOK.nil
def rowG (k : Nat) (h : HL) : Option (Nat → Int) := match rowCols k h with
  | [.ci _ g] => some fun e => g 0 e
  | _ => none
abbrev XEd := Nat × (Nat → Int)
def laEd (ts ti : Nat) (I : XEd → Prop) (μ : XEd → Nat) (s : St) : Option (LA XEd) := match find (tkey ts s) s.H.h with
  | some (.row t cap n _) => some ⟨[(tkey ts, true)], fun x => [.row t cap n [.ci .u64 fun _ e => x.2 e]], [ti], fun x => [.c (i6 x.1)],
      fun s => match tmI ti s, rowG (tkey ts s) s.H.h with | some i, some a => some (i.toNat, a) | _, _ => none, I, μ⟩
  | _ => none
def IEP (N : Nat) (k : Int) (g : Nat → Int) (x : XEd) : Prop := x.1 ≤ N ∧ ∀ j, j ≤ N → upM x.1 k x.2 j = upM N k g j
def IEO (N : Nat) (y : Int) (g : Nat → Int) (x : XEd) : Prop := x.1 < N ∧ ∀ j, j < N → dnM N y (N - x.1) x.1 x.2 j = dnM N y N 0 g j
def hEd (n : Nat) (g : Nat → Int) : HL := [(0, .view 1 (fun _ => n) [.ci .u64 fun _ e => g e])]
def vEP (n cap : Nat) (g : Nat → Int) (k : Int) : V := verF P conEd 6 8 fEP [] (.loop XEd [] (laEd 5 6 (IEP n k g) fun x => x.1) .nil .nil) [.c (slK 0 1 n cap), .c (uw k)] ⟨hEd n g, 1, fun _ => True⟩
  (finV 1 2 (fun s H => capOf (keyC s) H.h) (fun s H => [keyC s]) (fun c => n + 1 ≤ c) (fun c => .c (slK 1 1 (n + 1) c)) (fun c => [(1, .row 58 c (n + 1) [.ci .u64 fun _ e => upM n k g e])]))
def keyR : SV → Nat
  | .t [_, .c (.slc k _ _ _ _ _), _] => k
  | _ => 0
def selF : SV → Hp → Bool := fun s _ => match s with
  | .t [_, _, .c (.kb false)] => true
  | _ => false
def selN : SV → Hp → Bool := fun s _ => match s with
  | .t [_, .c .nils, _] => true
  | _ => false
def psEO (n : Nat) (g : Nat → Int) : PS := .br (decide ((n : Int) = 0)) selF (.one 1 (fun _ _ => []) (.t [.c (.ki .u64 0), .c .nils, .c (.kb false)]) [])
  (.br (decide ((n : Int) = 1)) selN (.one 1 (fun _ _ => []) (.t [.c (uw (g 0)), .c .nils, .c (.kb true)]) [])
    (.leaf Nat 2 (fun s H => capOf (keyR s) H.h) (fun s H => [keyR s]) (fun c => n - 1 ≤ c) (fun c => .t [.c (uw (g 0)), .c (slK 1 1 (n - 1) c), .c (.kb true)]) (fun c => [(1, .row 58 c (n - 1) [.ci .u64 fun _ e => dnM (n - 1) (g (n - 1)) (n - 1) 0 g e])])))
def vEO (n cap : Nat) (g : Nat → Int) : V := verF P conEd 6 8 fEO [] (.loop XEd [] (laEd 7 8 (IEO (n - 1) (g (n - 1)) g) fun x => n - 1 - x.1) .nil .nil) [.c (slK 0 1 n cap)] ⟨hEd n g, 1, fun _ => True⟩ ((psEO n g).fin 1)
end
end Go.Proofs.Ytomaagmleafjeaa.Md
