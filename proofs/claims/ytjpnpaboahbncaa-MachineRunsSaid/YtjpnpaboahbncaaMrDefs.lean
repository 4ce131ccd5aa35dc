/- 'MachineRuns': what its functions are said to do. -/
import Derived.Test.YtjpnpaboahbncaaSxLoop
import Derived.Test.YtjpnpaboahbncaaChecked
set_option linter.unusedVariables false
namespace Go.Proofs.Ytjpnpaboahbncaa.Mr
open Go Go.RowKit Sx
noncomputable section

noncomputable abbrev P : Program := Try.prog
def codeOf (f : FuncId) : Code := match P.funcs[f]? with | some fn => (fn.body).getD .skip | none => .skip
def T1 : Nat → Prop := fun _ => True

/-! ### ref02.Draw -/
def post26 (a b : Int) : Out (SV × Hp) := .any Int (fun r => (b < 1 → r = 0) ∧ (1 ≤ b → 0 ≤ r ∧ r < b)) fun r => .leaf (.c (.iv .i64 r), ⟨[], 0, T1⟩)
def con26 : List SV → Hp → Out (SV × Hp) := fun args H => match args with
  | [x, y] => match asI x, asI y with
    | some (_, _, a), some (_, _, b) => match decide (b ≤ 4611686018427387904) with
      | true => useT [] 0 [.c (.iv .i64 a), .c (.iv .i64 b)] [] (post26 a b) args H
      | false => .bad 402
    | _, _ => .bad 401
  | _ => .bad 400

/-! ### machine.Run, on a counter -/
def mach : List (Option SC) := [none, none, none, none, none, none, none, none, none, none, none, none, none, none, none, none, none, none, none, none, none, none, some (.ptr 1 (.k 0) (.k 0) 0 6), none, none, none]
def hp (i L c : Int) (len : Nat) (g : Nat → Int) : HL := [(0, .own 37 26 mach), (1, .own 110 6 [some (.slc 2 (.k 0) (.k 0) 1 (.s len) (.s len)), none, none, none, none, some (.iv .i64 c)]),
  (2, .row 44 len len [.ci .u64 fun _ e => g e]), (3, .own 41 2 [some (.iv .i64 i), some (.iv .i64 L)])]
def args20 (n : Int) : List SV := [.c (.ptr 0 (.k 0) (.k 0) 0 26), .c (.ifc 39 3 (.k 0) (.k 0) 0 2), .c (.iv .i64 n)]
def upG (i : Int) (t : Int) (g : Nat → Int) : Nat → Int := fun e => if e = i.toNat then g e + t else g e
/-- Rounds done, what is left of the counter: 't' rounds, none of them the last. -/
structure X where
  t : Int
  c : Int
def J20 (i L n : Int) (len : Nat) (g : Nat → Int) (x : X) : St := ⟨[some (.c (.ptr 0 (.k 0) (.k 0) 0 26)), some (.c (.ifc 39 3 (.k 0) (.k 0) 0 2)), some (.c (.iv .i64 n)), none, none, none, some (.c (.iv .i64 x.t)), none, none, none, none, none, none, none, none, none, none, none],
  ⟨hp i (L - x.t) x.c len (upG i x.t g), 4, T1⟩⟩
def I20 (L n : Int) (x : X) : Prop := 0 ≤ x.t ∧ (x.t = 0 ∨ x.t < L) ∧ (x.t = 0 ∨ x.t ≤ n)
def steps (L n : Int) : Int := min (max 1 L) (max 0 n)
def fin20 (i L n : Int) (len : Nat) (g : Nat → Int) (c : Int) (e : Ex) (done : Bool) : Out (Ex × St) :=
  .leaf (e, ⟨[some (.c (.ptr 0 (.k 0) (.k 0) 0 26)), some (.c (.ifc 39 3 (.k 0) (.k 0) 0 2)), some (.c (.iv .i64 n)), none, none, none, some (.c (.iv .i64 (steps L n))), match e with | .ret => some (.c (.kb done)) | _ => none, none, none, none, none, none, none, none, none, none, none],
    ⟨hp i (L - min L (steps L n)) c len (upG i (min L (steps L n)) g), 4, T1⟩⟩)
def A20 (i L n : Int) (len : Nat) (g : Nat → Int) : Out (Ex × St) :=
  .any Int (fun _ => True) fun c => .br (decide (max 1 L ≤ n)) (fin20 i L n len g c .ret true) (fin20 i L n len g c (.exit 0) false)
def body20 : Code := match codeOf 20 with | .seq _ (.seq (.block _ (.loop c)) _) => c | _ => .skip
def noCon : FuncId → Option (List SV → Hp → Out (SV × Hp)) := fun _ => none
def noAnn : FuncId → Ann := fun _ => .nil
def round20 (i L n : Int) (len : Nat) (g : Nat → Int) (x : X) : Out (Ex × St) := execC P (execF P noCon noAnn 3 6) (stride 6) 3 body20 .nil (J20 i L n len g x)
def ann20 (i L n c : Int) (len : Nat) (g : Nat → Int) : Ann := .two .nil (.two (.loop (fun s => .need (I20 L n ⟨0, c⟩ ∧ leSt s (J20 i L n len g ⟨0, c⟩)) (A20 i L n len g))) .nil)
def pre20 (i L : Int) (len : Nat) (g : Nat → Int) : Prop := 0 ≤ i ∧ i < (len : Int) ∧ (len : Int) ≤ 4611686018427387904 ∧ 0 ≤ L ∧ L ≤ 4611686018427387904 ∧ 0 ≤ g i.toNat ∧ g i.toNat + L ≤ 4611686018427387904
def out20 (i L n : Int) (len : Nat) (g : Nat → Int) (c : Int) (done : Bool) : SV × Hp := (.t [.c (.iv .i64 (steps L n)), .c (.bv done)], ⟨hp i (L - min L (steps L n)) c len (upG i (min L (steps L n)) g), 4, T1⟩)
def post20 (i L n : Int) (len : Nat) (g : Nat → Int) : Out (SV × Hp) := .need (pre20 i L len g) (.any Int (fun _ => True) fun c => .leaf (out20 i L n len g c (decide (max 1 L ≤ n))))
def run20 (i L n c : Int) (len : Nat) (g : Nat → Int) : Out (SV × Hp) := execF P noCon (fun f => bif Nat.beq f 20 then ann20 i L n c len g else .nil) 3 7 20 (args20 n) ⟨hp i L c len g, 4, T1⟩
def con20 : List SV → Hp → Out (SV × Hp) := fun args H => match args with
  | [.c (.ptr km _ _ _ _), .c (.ifc _ kc _ _ _ _), nn] => match asI nn, find km H.h, find kc H.h with
    | some (_, _, n), some (.own _ _ cm), some (.own _ _ cc) => match (cm[22]? : Option (Option SC)), (cc[0]? : Option (Option SC)), (cc[1]? : Option (Option SC)) with
      | some (some (.ptr kmem _ _ _ _)), some (some xi), some (some xL) => match find kmem H.h, asI (.c xi), asI (.c xL) with
        | some (.own _ _ cmem), some (_, _, i), some (_, _, L) => match (cmem[0]? : Option (Option SC)), (cmem[5]? : Option (Option SC)) with
          | some (some (.slc kr _ _ _ _ _)), some (some xc) => match find kr H.h, asI (.c xc) with
            | some (.row _ _ len [.ci _ g]), some (_, _, c) => useT [km, kmem, kr, kc] 4 (args20 n) (hp i L c len (g 0)) (post20 i L n len (g 0)) args H
            | _, _ => .bad 406
          | _, _ => .bad 405
        | _, _, _ => .bad 404
      | _, _, _ => .bad 403
    | _, _, _ => .bad 402
  | _ => .bad 401
end
end Go.Proofs.Ytjpnpaboahbncaa.Mr
