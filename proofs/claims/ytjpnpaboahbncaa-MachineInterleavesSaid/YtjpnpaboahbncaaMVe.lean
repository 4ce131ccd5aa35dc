/- Encode, of the program and of the reference: what is written; a number's writing. -/
import Derived.Test.YtjpnpaboahbncaaMVa
set_option linter.unusedVariables false
set_option linter.unusedSimpArgs false
set_option linter.unusedVariables false
set_option maxRecDepth 100000
namespace Go.Proofs.Ytjpnpaboahbncaa.Vc
open Go Go.RowKit Sx Cn Dc Ck
/-- What has been written: how many bytes, which, and whether a number did not fit. -/
structure Bw where
  n : Nat
  g : Nat → Int
  bad : Bool
def outB (v k : Int) : Bool := decide (v < 0) || decide (k ≤ v)
def putN (n : Nat) (v k : Int) : Nat := if outB v k = true then n else n + 1
def putG (n : Nat) (g : Nat → Int) (v k : Int) (e : Nat) : Int := if outB v k = true then g e else if e = n then IntKind.u8.wrap v else g e
def putB (b : Bool) (v k : Int) : Bool := b || outB v k
def Bw.put (s : Bw) (v k : Int) : Bw := ⟨putN s.n v k, fun e => putG s.n s.g v k e, putB s.bad v k⟩
def Bw.instr (c : Cf) (s : Bw) (o a b : Int) : Bw := if o = 0 then (s.put o 3).put (IntKind.i64.wrap (a - 1)) 4 else if o = 1 then ((s.put o 3).put a c.nP).put b c.L else (s.put o 3).put a 4
/-- The instructions of program i from the k-th on, m of them. -/
def putIs (c : Cf) (i : Nat) : Nat → Nat → Bw → Bw
  | _, 0, s => s
  | k, m + 1, s => putIs c i (k + 1) m (s.instr c (c.iO i k) (c.iA i k) (c.iB i k))
def putPs (c : Cf) : Nat → Nat → Bw → Bw
  | _, 0, s => s
  | i, m + 1, s => putPs c (i + 1) m (putIs c i 0 (c.lenP i) (s.put (c.lenP i) 6))
def putUs (c : Cf) : Nat → Nat → Bw → Bw
  | _, 0, s => s
  | i, m + 1, s => putUs c (i + 1) m (((s.put (c.uP i) c.nP).put (c.uL i) c.L).put (c.uD i) 16)
def Bw.nil : Bw := ⟨0, fun _ => 0, false⟩
def headB (c : Cf) : Bw := ((((((((((Bw.nil.put (IntKind.i64.wrap (c.W - 1)) 4).put (IntKind.i64.wrap (c.L - 1)) 4).put (IntKind.i64.wrap (c.C - 1)) (min 3 c.L)).put (IntKind.i64.wrap (c.T - 1)) 12).put (IntKind.i64.wrap (c.D - 1)) 4).put (IntKind.i64.wrap (c.H - 1)) 4).put (IntKind.i64.wrap (c.B - 1)) c.D).put c.A 6).put (IntKind.i64.wrap (c.P - 1)) 8).put (IntKind.i64.wrap ((c.nP : Int) - 1)) 4)
def encB (c : Cf) : Bw := putUs c 0 c.nU ((putPs c 0 c.nP (headB c)).put c.nU 6)
/-- Without the zeros at the end. -/
def trim (g : Nat → Int) : Nat → Nat
  | 0 => 0
  | n + 1 => if g n = 0 then trim g n else n + 1
noncomputable section
/-- r: the reference's coder, or the program's writer. -/
def typW (r : Bool) : TypeId := match r with | true => 132 | false => 157
def sizeW (r : Bool) : Nat := match r with | true => 4 | false => 2
def fnW (r : Bool) : FuncId := match r with | true => 122 | false => 120
def outW (r : Bool) : Nat := match r with | true => 1 | false => 0
def badW (r : Bool) : Nat := match r with | true => 3 | false => 1
def layW (r : Bool) (s b : SC) : List (Option SC) := match r with | true => [none, some s, none, some b] | false => [some s, some b]
def blkW (r : Bool) (kb : Nat) (s : Bw) (cap : Nat) : Blk := .own (typW r) (sizeW r) (layW r (slK kb 1 s.n cap) (.bv s.bad))
def rowW (s : Bw) (cap : Nat) : Blk := .row 5 cap s.n [.ci .u8 fun _ e => s.g e]
def argsW (r : Bool) (v k : Int) : List SV := [.c (.ptr 0 (.k 0) (.k 0) 0 (sizeW r)), iv v, iv k]
def hW (r : Bool) (s : Bw) (cap : Nat) : HL := [(0, blkW r 1 s cap), (1, rowW s cap)]
/-- The capacity of a row. -/
def capOf (k : Nat) (H : HL) : Option Nat := match find k H with
  | some (.row _ c _ _) => some c
  | _ => none
/-- The name in a cell of a block. -/
def cellKey (k f : Nat) (H : HL) : Nat := match find k H with
  | some (.own _ _ cs) => match (cs[f]? : Option (Option SC)) with
    | some (some c) => Sx.keyOf c
    | _ => 0
  | _ => 0
def psW (r : Bool) (s : Bw) (v k : Int) : PS := .leaf (Bw × Nat) 3 (fun _ H => (capOf (cellKey 0 (outW r) H.h) H.h).map fun c => (s.put v k, c)) (fun _ H => [cellKey 0 (outW r) H.h]) (fun x => x.1 = s.put v k ∧ x.1.n ≤ x.2) (fun _ => .t [])
  (fun x => [(0, blkW r 2 x.1 x.2), (2, rowW x.1 x.2)])
def preW (s : Bw) (cap : Nat) (k : Int) : Prop := s.n ≤ 1000000 ∧ s.n ≤ cap ∧ 0 ≤ k ∧ k ≤ 1000000
def conPut (r : Bool) : List SV → Hp → Out (SV × Hp) := fun args H => match args with
  | [.c (.ptr kc _ _ _ _), v, k] => match find kc H.h with
    | some (.own _ _ cs) => match (cs[outW r]? : Option (Option SC)), (cs[badW r]? : Option (Option SC)) with
      | some (some (.slc kb _ _ _ n cap)), some (some b) => match asB (.c b), asI v, asI k, rowFn H.h kb 0 with
        | some (_, b), some (_, _, v), some (_, _, k), some g => useP [kc, kb] 2 (argsW r v k) (hW r ⟨n.v, g, b⟩ cap.v) (.need (preW ⟨n.v, g, b⟩ cap.v k) (psW r ⟨n.v, g, b⟩ v k).out) args H
        | _, _, _, _ => .bad 450
      | _, _ => .bad 451
    | _ => .bad 452
  | _ => .bad 453
def verPut (r : Bool) (s : Bw) (cap : Nat) (v k : Int) : V := verF P con7 3 3 (fnW r) [] .nil (argsW r v k) ⟨hW r s cap, 2, fun _ => True⟩ ((psW r s v k).fin 2)
/-- What a state says of the coder in temporary 5. -/
def rdW (r : Bool) (s : St) : Option (Bw × Nat) := match find (tkey 5 s) s.H.h with
  | some (.own _ _ cs) => match (cs[outW r]? : Option (Option SC)), (cs[badW r]? : Option (Option SC)) with
    | some (some (.slc kb _ _ _ n cap)), some (some b) => match asB (.c b), rowFn s.H.h kb 0 with
      | some (_, b), some g => some (⟨n.v, g, b⟩, cap.v)
      | _, _ => none
    | _, _ => none
  | _ => none
def keyW (r : Bool) (s : St) : Nat := cellKey (tkey 5 s) (outW r) s.H.h
def rdI (r : Bool) (t : Nat) (s : St) : Option (Int × Bw × Nat) := match intT t s, rdW r s with
  | some i, some x => some (i, x)
  | _, _ => none
/-- A loop that writes numbers; its counter is temporary t. -/
def laW (r : Bool) (t : Nat) (I : Int → Bw → Prop) (m : Nat) (s0 : St) : LA (Int × Bw × Nat) :=
  ⟨[(tkey 5, true), (keyW r, false)], fun x => [blkW r (keyW r s0) x.2.1 x.2.2, rowW x.2.1 x.2.2], [t], fun x => [iv x.1], rdI r t, fun x => I x.1 x.2.1 ∧ x.2.1.n ≤ x.2.2, fun x => m - x.1.toNat⟩
section
variable (c : Cf) (r : Bool) (ti tk tu : Nat)
def psE (T : Bw) (i : Int) (s : Bw) : Prop := putPs c i.toNat (c.nP - i.toNat) s = T
def isE (T : Bw) (i : Nat) (k : Int) (s : Bw) : Prop := putIs c i k.toNat (c.lenP i - k.toNat) s = T
def usE (T : Bw) (i : Int) (s : Bw) : Prop := putUs c i.toNat (c.nU - i.toNat) s = T
def psI (T : Bw) (i : Int) (s : Bw) : Prop := (c.nP ≤ 32 ∧ 0 ≤ i ∧ i ≤ c.nP ∧ s.n ≤ 10 + 97 * i.toNat) ∧ psE c T i s
def isI (T : Bw) (i : Nat) (k : Int) (s : Bw) : Prop := (i < c.nP ∧ c.nP ≤ 32 ∧ c.lenP i ≤ 32 ∧ 0 ≤ k ∧ k ≤ c.lenP i ∧ s.n ≤ 11 + 97 * i + 3 * k.toNat) ∧ isE c T i k s
def usI (T : Bw) (i : Int) (s : Bw) : Prop := (c.nU ≤ 64 ∧ 0 ≤ i ∧ i ≤ c.nU ∧ s.n ≤ 4000 + 3 * i.toNat) ∧ usE c T i s
def fP (s : St) : Option (LA (Int × Bw × Nat)) := (rdW r s).map fun x => laW r ti (psI c (putPs c 0 c.nP x.1)) c.nP s
def fI (s : St) : Option (LA (Int × Bw × Nat)) := match intT ti s, rdW r s with
  | some i, some x => some (laW r tk (isI c (putIs c i.toNat 0 (c.lenP i.toNat) x.1) i.toNat) (c.lenP i.toNat) s)
  | _, _ => none
def fU (s : St) : Option (LA (Int × Bw × Nat)) := (rdW r s).map fun x => laW r tu (usI c (putUs c 0 c.nU x.1)) c.nU s
def fT (s : St) : Option (LA Nat) := (rdW r s).map fun x => ⟨[(tkey 5, true)], fun n => [.own (typW r) (sizeW r) (layW r (slK (keyW r s) 1 n x.2) (.bv x.1.bad))], [], fun _ => [], fun s => (rdW r s).map fun x => x.1.n, fun n => n ≤ x.1.n ∧ trim x.1.g n = trim x.1.g x.1.n, fun n => n⟩
def avE : AV := .loop _ [] (fP c r ti) (.loop _ [] (fI c r ti tk) .nil .nil) (.loop _ [] (fU c r tu) .nil (.loop _ [] (fT r) .nil .nil))
/-- The coder's empty slice is a row without elements, from here on. -/
def gsE (rg : Nat) : List (Nat × G) := [(rg, .nilCell (tkey 5) (outW r) 5 1 fun _ => [.ci .u8 fun _ _ => 0])]
def errB : Int := if errE c = 0 then 1 else errE c
def goodB : Bool := decide (errE c = 0) && !((encB c).bad)
def selE : SV → Hp → Bool := fun s _ => match s with
  | .t (.c (.slc ..) :: _) => true
  | _ => false
def keyE (s : SV) : Nat := match s with
  | .t (.c x :: _) => Sx.keyOf x
  | _ => 0
def lenE : Nat := trim (encB c).g (encB c).n
def psEnc : PS := .br (goodB c) selE
  (.leaf Nat 4 (fun s H => capOf (keyE s) H.h) (fun s _ => [keyE s]) (fun cap => lenE c ≤ cap) (fun cap => .t [.c (slK 3 1 (lenE c) cap), .c (.iv .i64 0)]) (fun cap => [(3, .row 5 cap (lenE c) [.ci .u8 fun _ e => (encB c).g e])]))
  (.one 3 (fun _ _ => []) (.t [.c .nils, .c (.iv .i64 (errB c))]) [])
end
end
end Go.Proofs.Ytjpnpaboahbncaa.Vc

/- Encode: the conditions, printed by program. -/
set_option linter.unusedVariables false
set_option maxRecDepth 100000
namespace Go.Proofs.Ytjpnpaboahbncaa.Vc
open Go Go.RowKit Sx Cn Dc Ck

theorem verPutR_eq (s : Bw) (cap : Nat) (v k : Int) : verPut true s cap v k =
  V.br (decide (v < Int.ofNat 0))
    (V.need (s.put v k = s.put v k ∧ putN s.n v k ≤ cap)
    (V.need (s.n = putN s.n v k)
    (V.need (cap = cap)
    (V.need (true = putB s.bad v k)
    (V.need (cap = cap)
    (V.need (putN s.n v k ≤ s.n)
    (V.need (∀ (e : Nat), e < putN s.n v k → s.g e = putG s.n s.g v k e) V.ok)))))))
    (V.br (decide (v ≥ k))
    (V.need (s.put v k = s.put v k ∧ putN s.n v k ≤ cap)
    (V.need (s.n = putN s.n v k)
    (V.need (cap = cap)
    (V.need (true = putB s.bad v k)
    (V.need (cap = cap)
    (V.need (putN s.n v k ≤ s.n)
    (V.need (∀ (e : Nat), e < putN s.n v k → s.g e = putG s.n s.g v k e) V.ok)))))))
    (V.need (0 < 1)
    (V.need (s.n ≤ s.n ∧ cap = cap)
    (V.need (s.n + 1 ≤ 9223372036854775807 ∧ (s.n + 1) * 1 ≤ 140737488355328)
    (V.any Nat (fun x => s.n + 1 ≤ x) fun x => V.need (s.put v k = s.put v k ∧ putN s.n v k ≤ x)
    (V.need (s.n + 1 = putN s.n v k)
    (V.need (x = x)
    (V.need (s.bad = putB s.bad v k)
    (V.need (x = x)
    (V.need (putN s.n v k ≤ s.n + 1)
    (V.need (∀ (e : Nat), e < putN s.n v k → (if 0 = 0 ∧ e = s.n then IntKind.u8.wrap v else s.g e) = putG s.n s.g v k e) V.ok))))))))))) := by kernel_rfl

theorem verPutP_eq (s : Bw) (cap : Nat) (v k : Int) : verPut false s cap v k =
  V.br (!decide (Int.ofNat 0 ≤ v ∧ v ≤ IntKind.i64.wrap (k - Int.ofNat 1)))
    (V.need (s.put v k = s.put v k ∧ putN s.n v k ≤ cap)
    (V.need (s.n = putN s.n v k)
    (V.need (cap = cap)
    (V.need (true = putB s.bad v k)
    (V.need (cap = cap)
    (V.need (putN s.n v k ≤ s.n)
    (V.need (∀ (e : Nat), e < putN s.n v k → s.g e = putG s.n s.g v k e) V.ok)))))))
    (V.need (0 < 1)
    (V.need (s.n ≤ s.n ∧ cap = cap)
    (V.need (s.n + 1 ≤ 9223372036854775807 ∧ (s.n + 1) * 1 ≤ 140737488355328)
    (V.any Nat (fun x => s.n + 1 ≤ x) fun x => V.need (s.put v k = s.put v k ∧ putN s.n v k ≤ x)
    (V.need (s.n + 1 = putN s.n v k)
    (V.need (x = x)
    (V.need (s.bad = putB s.bad v k)
    (V.need (x = x)
    (V.need (putN s.n v k ≤ s.n + 1)
    (V.need (∀ (e : Nat), e < putN s.n v k → (if 0 = 0 ∧ e = s.n then IntKind.u8.wrap v else s.g e) = putG s.n s.g v k e) V.ok)))))))))) := by kernel_rfl


end Go.Proofs.Ytjpnpaboahbncaa.Vc

/- A number's writing: the contracts. -/
set_option linter.unusedVariables false
set_option linter.unusedSimpArgs false
set_option maxRecDepth 100000
namespace Go.Proofs.Ytjpnpaboahbncaa.Vc
open Go Go.RowKit Sx Cn Dc Ck
theorem outB_t {v k : Int} (h : v < 0 ∨ k ≤ v) : outB v k = true := by unfold outB; simp; exact h
theorem outB_f {v k : Int} (h : ¬ (v < 0 ∨ k ≤ v)) : outB v k = false := by unfold outB; simp; omega
theorem vhPutR {s : Bw} {cap : Nat} {v k : Int} (h : preW s cap k) : VHolds (verPut true s cap v k) := by
  constructor
  rw [verPutR_eq]
  obtain ⟨h1, h2, h3, h4⟩ := h
  simp only [V.holds, Int.ofNat_eq_natCast, decide_eq_true_eq, decide_eq_false_iff_not, ge_iff_le, Int.natCast_zero, Int.cast_ofNat_Int, true_and, and_true, eq_self, forall_const, true_implies, implies_true, Nat.le_refl, Nat.zero_lt_one]
  refine ⟨fun a => ?_, fun a => ⟨fun b => ?_, fun b => ?_⟩⟩
  · have e := outB_t (k := k) (.inl a)
    simp [putN, putG, putB, e, h2]
  · have e := outB_t (v := v) (.inr b)
    simp [putN, putG, putB, e, h2]
  · have e := outB_f (v := v) (k := k) (by omega)
    simp [putN, putG, putB, e]
    omega
theorem vhPutP {s : Bw} {cap : Nat} {v k : Int} (h : preW s cap k) : VHolds (verPut false s cap v k) := by
  constructor
  rw [verPutP_eq]
  obtain ⟨h1, h2, h3, h4⟩ := h
  have w1 : IntKind.i64.wrap (k - 1) = k - 1 := w64 (by omega)
  simp only [V.holds, Int.ofNat_eq_natCast, decide_eq_true_eq, decide_eq_false_iff_not, Bool.not_eq_true', Bool.not_eq_false', ge_iff_le, Int.natCast_zero, Int.natCast_one, Int.cast_ofNat_Int, true_and, and_true, eq_self, forall_const, true_implies, implies_true, Nat.le_refl, Nat.zero_lt_one, w1]
  refine ⟨fun a => ?_, fun a => ?_⟩
  · have e := outB_t (v := v) (k := k) (by omega)
    simp [putN, putG, putB, e, h2]
  · have e := outB_f (v := v) (k := k) (by omega)
    simp [putN, putG, putB, e]
    omega
theorem conPut_ok (r : Bool) : ContractOK P (fnW r) (conPut r) := contract_of_useP fun args H => by
  unfold conPut
  repeat' split
  all_goals first
    | exact .inl ⟨_, rfl⟩
    | exact .inr ⟨_, _, _, _, _, rfl, local_of_ps con7_ok fun h => by cases r <;> first | exact vhPutR h | exact vhPutP h⟩
noncomputable section
def conR : Con := Con.add (fnW true) (conPut true) (Con.add 44 conErr con7)
theorem conR_ok : ConOK P conR := .add (conPut_ok true) (.add conErr44 con7_ok)
def conP' : Con := Con.add (fnW false) (conPut false) (Con.add 58 conErr con7)
theorem conP'_ok : ConOK P conP' := .add (conPut_ok false) (.add conErr58 con7_ok)
def verEncR (c : Cf) : V := verF P conR 3 3 68 (gsE true 5) (avE c true 7 8 10) [argC c] ⟨hC c, 3, fun _ => True⟩ ((psEnc c).fin 3)
def verEncP (c : Cf) : V := verF P conP' 3 3 67 (gsE false 5) (avE c false 77 87 105) [argC c] ⟨hC c, 3, fun _ => True⟩ ((psEnc c).fin 3)
end
end Go.Proofs.Ytjpnpaboahbncaa.Vc

/- Encode: the conditions, printed by program. -/
set_option linter.unusedVariables false
set_option maxRecDepth 100000
namespace Go.Proofs.Ytjpnpaboahbncaa.Vc
open Go Go.RowKit Sx Cn Dc Ck

theorem verEncR_eq (c : Cf) : verEncR c =
  V.need (c.W = c.W)
    (V.need (c.L = c.L)
    (V.need (c.C = c.C)
    (V.need (c.T = c.T)
    (V.need (c.D = c.D)
    (V.need (c.H = c.H)
    (V.need (c.B = c.B)
    (V.need (c.A = c.A)
    (V.need (c.P = c.P)
    (V.need (c.nP = c.nP)
    (V.need (c.rc = c.rc)
    (V.need (c.nU = c.nU)
    (V.need (c.cu = c.cu)
    (V.need (1 ≤ 1)
    (V.need (∀ (i : Nat), i < 1 → c.nP ≤ c.nP)
    (V.need (∀ (i e : Nat), i < 1 ∧ e < c.nP → e = e)
    (V.need (∀ (i e : Nat), i < 1 ∧ e < c.nP → c.lenP e = c.lenP e)
    (V.need (∀ (i e : Nat), i < 1 ∧ e < c.nP → c.FC e = c.FC e)
    (V.need (1 ≤ 1)
    (V.need (∀ (i : Nat), i < 1 → c.nU ≤ c.nU)
    (V.need (∀ (i e : Nat), i < 1 ∧ e < c.nU → c.uP e = c.uP e)
    (V.need (∀ (i e : Nat), i < 1 ∧ e < c.nU → c.uL e = c.uL e)
    (V.need (∀ (i e : Nat), i < 1 ∧ e < c.nU → c.uD e = c.uD e)
    (V.need (c.nP ≤ c.nP)
    (V.need (∀ (i : Nat), i < c.nP → c.lenP i ≤ c.lenP i)
    (V.need (∀ (i e : Nat), i < c.nP ∧ e < c.lenP i → c.iO i e = c.iO i e)
    (V.need (∀ (i e : Nat), i < c.nP ∧ e < c.lenP i → c.iA i e = c.iA i e)
    (V.need (∀ (i e : Nat), i < c.nP ∧ e < c.lenP i → c.iB i e = c.iB i e)
    (V.need True
    (V.br (errE (Cf.mk c.W c.L c.C c.T c.D c.H c.B c.A c.P c.nP c.rc c.nU c.cu (fun (e : Nat) => c.lenP e) (fun (e : Nat) => c.FC e) (fun (i e : Nat) => c.iO i e) (fun (i e : Nat) => c.iA i e) (fun (i e : Nat) => c.iB i e) (fun (e : Nat) => c.uP e) (fun (e : Nat) => c.uL e) fun (e : Nat) => c.uD e) != Int.ofNat 0)
    (V.need (goodB c = false)
    (V.need True
    (V.need (errE (Cf.mk c.W c.L c.C c.T c.D c.H c.B c.A c.P c.nP c.rc c.nU c.cu (fun (e : Nat) => c.lenP e) (fun (e : Nat) => c.FC e) (fun (i e : Nat) => c.iO i e) (fun (i e : Nat) => c.iA i e) (fun (i e : Nat) => c.iB i e) (fun (e : Nat) => c.uP e) (fun (e : Nat) => c.uL e) fun (e : Nat) => c.uD e) = errB c) V.ok)))
    (V.need (IntKind.i64.wrap (c.W - Int.ofNat 1) = IntKind.i64.wrap (c.W - Int.ofNat 1))
    (V.need (Int.ofNat 4 = Int.ofNat 4)
    (V.need (0 = 0)
    (V.need (0 = 0)
    (V.need (false = false)
    (V.need (0 = 0)
    (V.need (0 ≤ 0)
    (V.need (∀ (e : Nat), e < 0 → Int.ofNat 0 = Int.ofNat 0)
    (V.need (preW (Bw.mk 0 (fun (e : Nat) => Int.ofNat 0) false) 0 (Int.ofNat 4))
    (V.need (∃ (x : Bw × Nat), x.fst = (Bw.mk 0 (fun (e : Nat) => Int.ofNat 0) false).put (IntKind.i64.wrap (c.W - Int.ofNat 1)) (Int.ofNat 4) ∧ x.fst.n ≤ x.snd)
    (V.any (Bw × Nat) (fun (x : Bw × Nat) => x.fst = (Bw.mk 0 (fun (e : Nat) => Int.ofNat 0) false).put (IntKind.i64.wrap (c.W - Int.ofNat 1)) (Int.ofNat 4) ∧ x.fst.n ≤ x.snd) fun (x : Bw × Nat) => V.need (IntKind.i64.wrap (c.L - Int.ofNat 1) = IntKind.i64.wrap (c.L - Int.ofNat 1))
    (V.need (Int.ofNat 4 = Int.ofNat 4)
    (V.need (x.fst.n = x.fst.n)
    (V.need (x.snd = x.snd)
    (V.need (x.fst.bad = x.fst.bad)
    (V.need (x.snd = x.snd)
    (V.need (x.fst.n ≤ x.fst.n)
    (V.need (∀ (e : Nat), e < x.fst.n → x.fst.g e = x.fst.g e)
    (V.need (preW (Bw.mk x.fst.n (fun (e : Nat) => x.fst.g e) x.fst.bad) x.snd (Int.ofNat 4))
    (V.need (∃ (x_1 : Bw × Nat), x_1.fst = (Bw.mk x.fst.n (fun (e : Nat) => x.fst.g e) x.fst.bad).put (IntKind.i64.wrap (c.L - Int.ofNat 1)) (Int.ofNat 4) ∧ x_1.fst.n ≤ x_1.snd)
    (V.any (Bw × Nat) (fun (x_1 : Bw × Nat) => x_1.fst = (Bw.mk x.fst.n (fun (e : Nat) => x.fst.g e) x.fst.bad).put (IntKind.i64.wrap (c.L - Int.ofNat 1)) (Int.ofNat 4) ∧ x_1.fst.n ≤ x_1.snd) fun (x : Bw × Nat) => V.need (IntKind.i64.wrap (c.C - Int.ofNat 1) = IntKind.i64.wrap (c.C - Int.ofNat 1))
    (V.need (min (Int.ofNat 3) c.L = min (Int.ofNat 3) c.L)
    (V.need (x.fst.n = x.fst.n)
    (V.need (x.snd = x.snd)
    (V.need (x.fst.bad = x.fst.bad)
    (V.need (x.snd = x.snd)
    (V.need (x.fst.n ≤ x.fst.n)
    (V.need (∀ (e : Nat), e < x.fst.n → x.fst.g e = x.fst.g e)
    (V.need (preW (Bw.mk x.fst.n (fun (e : Nat) => x.fst.g e) x.fst.bad) x.snd (min (Int.ofNat 3) c.L))
    (V.need (∃ (x_1 : Bw × Nat), x_1.fst = (Bw.mk x.fst.n (fun (e : Nat) => x.fst.g e) x.fst.bad).put (IntKind.i64.wrap (c.C - Int.ofNat 1)) (min (Int.ofNat 3) c.L) ∧ x_1.fst.n ≤ x_1.snd)
    (V.any (Bw × Nat) (fun (x_1 : Bw × Nat) => x_1.fst = (Bw.mk x.fst.n (fun (e : Nat) => x.fst.g e) x.fst.bad).put (IntKind.i64.wrap (c.C - Int.ofNat 1)) (min (Int.ofNat 3) c.L) ∧ x_1.fst.n ≤ x_1.snd) fun (x : Bw × Nat) => V.need (IntKind.i64.wrap (c.T - Int.ofNat 1) = IntKind.i64.wrap (c.T - Int.ofNat 1))
    (V.need (Int.ofNat 12 = Int.ofNat 12)
    (V.need (x.fst.n = x.fst.n)
    (V.need (x.snd = x.snd)
    (V.need (x.fst.bad = x.fst.bad)
    (V.need (x.snd = x.snd)
    (V.need (x.fst.n ≤ x.fst.n)
    (V.need (∀ (e : Nat), e < x.fst.n → x.fst.g e = x.fst.g e)
    (V.need (preW (Bw.mk x.fst.n (fun (e : Nat) => x.fst.g e) x.fst.bad) x.snd (Int.ofNat 12))
    (V.need (∃ (x_1 : Bw × Nat), x_1.fst = (Bw.mk x.fst.n (fun (e : Nat) => x.fst.g e) x.fst.bad).put (IntKind.i64.wrap (c.T - Int.ofNat 1)) (Int.ofNat 12) ∧ x_1.fst.n ≤ x_1.snd)
    (V.any (Bw × Nat) (fun (x_1 : Bw × Nat) => x_1.fst = (Bw.mk x.fst.n (fun (e : Nat) => x.fst.g e) x.fst.bad).put (IntKind.i64.wrap (c.T - Int.ofNat 1)) (Int.ofNat 12) ∧ x_1.fst.n ≤ x_1.snd) fun (x : Bw × Nat) => V.need (IntKind.i64.wrap (c.D - Int.ofNat 1) = IntKind.i64.wrap (c.D - Int.ofNat 1))
    (V.need (Int.ofNat 4 = Int.ofNat 4)
    (V.need (x.fst.n = x.fst.n)
    (V.need (x.snd = x.snd)
    (V.need (x.fst.bad = x.fst.bad)
    (V.need (x.snd = x.snd)
    (V.need (x.fst.n ≤ x.fst.n)
    (V.need (∀ (e : Nat), e < x.fst.n → x.fst.g e = x.fst.g e)
    (V.need (preW (Bw.mk x.fst.n (fun (e : Nat) => x.fst.g e) x.fst.bad) x.snd (Int.ofNat 4))
    (V.need (∃ (x_1 : Bw × Nat), x_1.fst = (Bw.mk x.fst.n (fun (e : Nat) => x.fst.g e) x.fst.bad).put (IntKind.i64.wrap (c.D - Int.ofNat 1)) (Int.ofNat 4) ∧ x_1.fst.n ≤ x_1.snd)
    (V.any (Bw × Nat) (fun (x_1 : Bw × Nat) => x_1.fst = (Bw.mk x.fst.n (fun (e : Nat) => x.fst.g e) x.fst.bad).put (IntKind.i64.wrap (c.D - Int.ofNat 1)) (Int.ofNat 4) ∧ x_1.fst.n ≤ x_1.snd) fun (x : Bw × Nat) => V.need (IntKind.i64.wrap (c.H - Int.ofNat 1) = IntKind.i64.wrap (c.H - Int.ofNat 1))
    (V.need (Int.ofNat 4 = Int.ofNat 4)
    (V.need (x.fst.n = x.fst.n)
    (V.need (x.snd = x.snd)
    (V.need (x.fst.bad = x.fst.bad)
    (V.need (x.snd = x.snd)
    (V.need (x.fst.n ≤ x.fst.n)
    (V.need (∀ (e : Nat), e < x.fst.n → x.fst.g e = x.fst.g e)
    (V.need (preW (Bw.mk x.fst.n (fun (e : Nat) => x.fst.g e) x.fst.bad) x.snd (Int.ofNat 4))
    (V.need (∃ (x_1 : Bw × Nat), x_1.fst = (Bw.mk x.fst.n (fun (e : Nat) => x.fst.g e) x.fst.bad).put (IntKind.i64.wrap (c.H - Int.ofNat 1)) (Int.ofNat 4) ∧ x_1.fst.n ≤ x_1.snd)
    (V.any (Bw × Nat) (fun (x_1 : Bw × Nat) => x_1.fst = (Bw.mk x.fst.n (fun (e : Nat) => x.fst.g e) x.fst.bad).put (IntKind.i64.wrap (c.H - Int.ofNat 1)) (Int.ofNat 4) ∧ x_1.fst.n ≤ x_1.snd) fun (x : Bw × Nat) => V.need (IntKind.i64.wrap (c.B - Int.ofNat 1) = IntKind.i64.wrap (c.B - Int.ofNat 1))
    (V.need (c.D = c.D)
    (V.need (x.fst.n = x.fst.n)
    (V.need (x.snd = x.snd)
    (V.need (x.fst.bad = x.fst.bad)
    (V.need (x.snd = x.snd)
    (V.need (x.fst.n ≤ x.fst.n)
    (V.need (∀ (e : Nat), e < x.fst.n → x.fst.g e = x.fst.g e)
    (V.need (preW (Bw.mk x.fst.n (fun (e : Nat) => x.fst.g e) x.fst.bad) x.snd c.D)
    (V.need (∃ (x_1 : Bw × Nat), x_1.fst = (Bw.mk x.fst.n (fun (e : Nat) => x.fst.g e) x.fst.bad).put (IntKind.i64.wrap (c.B - Int.ofNat 1)) c.D ∧ x_1.fst.n ≤ x_1.snd)
    (V.any (Bw × Nat) (fun (x_1 : Bw × Nat) => x_1.fst = (Bw.mk x.fst.n (fun (e : Nat) => x.fst.g e) x.fst.bad).put (IntKind.i64.wrap (c.B - Int.ofNat 1)) c.D ∧ x_1.fst.n ≤ x_1.snd) fun (x : Bw × Nat) => V.need (c.A = c.A)
    (V.need (Int.ofNat 6 = Int.ofNat 6)
    (V.need (x.fst.n = x.fst.n)
    (V.need (x.snd = x.snd)
    (V.need (x.fst.bad = x.fst.bad)
    (V.need (x.snd = x.snd)
    (V.need (x.fst.n ≤ x.fst.n)
    (V.need (∀ (e : Nat), e < x.fst.n → x.fst.g e = x.fst.g e)
    (V.need (preW (Bw.mk x.fst.n (fun (e : Nat) => x.fst.g e) x.fst.bad) x.snd (Int.ofNat 6))
    (V.need (∃ (x_1 : Bw × Nat), x_1.fst = (Bw.mk x.fst.n (fun (e : Nat) => x.fst.g e) x.fst.bad).put c.A (Int.ofNat 6) ∧ x_1.fst.n ≤ x_1.snd)
    (V.any (Bw × Nat) (fun (x_1 : Bw × Nat) => x_1.fst = (Bw.mk x.fst.n (fun (e : Nat) => x.fst.g e) x.fst.bad).put c.A (Int.ofNat 6) ∧ x_1.fst.n ≤ x_1.snd) fun (x : Bw × Nat) => V.need (IntKind.i64.wrap (c.P - Int.ofNat 1) = IntKind.i64.wrap (c.P - Int.ofNat 1))
    (V.need (Int.ofNat 8 = Int.ofNat 8)
    (V.need (x.fst.n = x.fst.n)
    (V.need (x.snd = x.snd)
    (V.need (x.fst.bad = x.fst.bad)
    (V.need (x.snd = x.snd)
    (V.need (x.fst.n ≤ x.fst.n)
    (V.need (∀ (e : Nat), e < x.fst.n → x.fst.g e = x.fst.g e)
    (V.need (preW (Bw.mk x.fst.n (fun (e : Nat) => x.fst.g e) x.fst.bad) x.snd (Int.ofNat 8))
    (V.need (∃ (x_1 : Bw × Nat), x_1.fst = (Bw.mk x.fst.n (fun (e : Nat) => x.fst.g e) x.fst.bad).put (IntKind.i64.wrap (c.P - Int.ofNat 1)) (Int.ofNat 8) ∧ x_1.fst.n ≤ x_1.snd)
    (V.any (Bw × Nat) (fun (x_1 : Bw × Nat) => x_1.fst = (Bw.mk x.fst.n (fun (e : Nat) => x.fst.g e) x.fst.bad).put (IntKind.i64.wrap (c.P - Int.ofNat 1)) (Int.ofNat 8) ∧ x_1.fst.n ≤ x_1.snd) fun (x : Bw × Nat) => V.need (IntKind.i64.wrap ((↑c.nP : Int) - Int.ofNat 1) = IntKind.i64.wrap ((↑c.nP : Int) - Int.ofNat 1))
    (V.need (Int.ofNat 4 = Int.ofNat 4)
    (V.need (x.fst.n = x.fst.n)
    (V.need (x.snd = x.snd)
    (V.need (x.fst.bad = x.fst.bad)
    (V.need (x.snd = x.snd)
    (V.need (x.fst.n ≤ x.fst.n)
    (V.need (∀ (e : Nat), e < x.fst.n → x.fst.g e = x.fst.g e)
    (V.need (preW (Bw.mk x.fst.n (fun (e : Nat) => x.fst.g e) x.fst.bad) x.snd (Int.ofNat 4))
    (V.need (∃ (x_1 : Bw × Nat), x_1.fst = (Bw.mk x.fst.n (fun (e : Nat) => x.fst.g e) x.fst.bad).put (IntKind.i64.wrap ((↑c.nP : Int) - Int.ofNat 1)) (Int.ofNat 4) ∧ x_1.fst.n ≤ x_1.snd)
    (V.any (Bw × Nat) (fun (x_1 : Bw × Nat) => x_1.fst = (Bw.mk x.fst.n (fun (e : Nat) => x.fst.g e) x.fst.bad).put (IntKind.i64.wrap ((↑c.nP : Int) - Int.ofNat 1)) (Int.ofNat 4) ∧ x_1.fst.n ≤ x_1.snd) fun (x : Bw × Nat) => V.need (psI c (putPs c 0 c.nP (Bw.mk x.fst.n (fun (e : Nat) => x.fst.g e) x.fst.bad)) (Int.ofNat 0) (Bw.mk x.fst.n (fun (e : Nat) => x.fst.g e) x.fst.bad) ∧ x.fst.n ≤ x.snd)
    (V.need (Int.ofNat 0 = Int.ofNat 0)
    (V.need (x.fst.n = x.fst.n)
    (V.need (x.snd = x.snd)
    (V.need (x.fst.bad = x.fst.bad)
    (V.need (x.snd = x.snd)
    (V.need (x.fst.n ≤ x.fst.n)
    (V.need (∀ (e : Nat), e < x.fst.n → x.fst.g e = x.fst.g e)
    (V.any (Int × Bw × Nat) (fun (x_1 : Int × Bw × Nat) => psI c (putPs c 0 c.nP (Bw.mk x.fst.n (fun (e : Nat) => x.fst.g e) x.fst.bad)) x_1.fst x_1.snd.fst ∧ x_1.snd.fst.n ≤ x_1.snd.snd) fun (x_1 : Int × Bw × Nat) => V.br (decide (x_1.fst < (↑c.nP : Int)))
    (V.br (!x_1.snd.fst.bad)
    (V.need (0 < 1 ∧ 0 < 1)
    (V.need (0 < 1 ∧ 0 < 1)
    (V.need (Int.ofNat 0 ≤ x_1.fst ∧ x_1.fst < (↑c.nP : Int))
    (V.need (0 < 1 ∧ 0 + x_1.fst.toNat < c.nP)
    (V.need (0 < 1 ∧ 0 + x_1.fst.toNat < c.nP)
    (V.need ((↑(c.lenP (0 + x_1.fst.toNat)) : Int) = (↑(c.lenP (0 + x_1.fst.toNat)) : Int))
    (V.need (Int.ofNat 6 = Int.ofNat 6)
    (V.need (x_1.snd.fst.n = x_1.snd.fst.n)
    (V.need (x_1.snd.snd = x_1.snd.snd)
    (V.need (x_1.snd.fst.bad = x_1.snd.fst.bad)
    (V.need (x_1.snd.snd = x_1.snd.snd)
    (V.need (x_1.snd.fst.n ≤ x_1.snd.fst.n)
    (V.need (∀ (e : Nat), e < x_1.snd.fst.n → x_1.snd.fst.g e = x_1.snd.fst.g e)
    (V.need (preW (Bw.mk x_1.snd.fst.n (fun (e : Nat) => x_1.snd.fst.g e) x_1.snd.fst.bad) x_1.snd.snd (Int.ofNat 6))
    (V.need (∃ (x : Bw × Nat), x.fst = (Bw.mk x_1.snd.fst.n (fun (e : Nat) => x_1.snd.fst.g e) x_1.snd.fst.bad).put (↑(c.lenP (0 + x_1.fst.toNat)) : Int) (Int.ofNat 6) ∧ x.fst.n ≤ x.snd)
    (V.any (Bw × Nat) (fun (x : Bw × Nat) => x.fst = (Bw.mk x_1.snd.fst.n (fun (e : Nat) => x_1.snd.fst.g e) x_1.snd.fst.bad).put (↑(c.lenP (0 + x_1.fst.toNat)) : Int) (Int.ofNat 6) ∧ x.fst.n ≤ x.snd) fun (x_2 : Bw × Nat) => V.need (isI c (putIs c x_1.fst.toNat 0 (c.lenP x_1.fst.toNat) (Bw.mk x_2.fst.n (fun (e : Nat) => x_2.fst.g e) x_2.fst.bad)) x_1.fst.toNat (Int.ofNat 0) (Bw.mk x_2.fst.n (fun (e : Nat) => x_2.fst.g e) x_2.fst.bad) ∧ x_2.fst.n ≤ x_2.snd)
    (V.need (Int.ofNat 0 = Int.ofNat 0)
    (V.need (x_2.fst.n = x_2.fst.n)
    (V.need (x_2.snd = x_2.snd)
    (V.need (x_2.fst.bad = x_2.fst.bad)
    (V.need (x_2.snd = x_2.snd)
    (V.need (x_2.fst.n ≤ x_2.fst.n)
    (V.need (∀ (e : Nat), e < x_2.fst.n → x_2.fst.g e = x_2.fst.g e)
    (V.any (Int × Bw × Nat) (fun (x : Int × Bw × Nat) => isI c (putIs c x_1.fst.toNat 0 (c.lenP x_1.fst.toNat) (Bw.mk x_2.fst.n (fun (e : Nat) => x_2.fst.g e) x_2.fst.bad)) x_1.fst.toNat x.fst x.snd.fst ∧ x.snd.fst.n ≤ x.snd.snd) fun (x_3 : Int × Bw × Nat) => V.need (0 < 1 ∧ 0 < 1)
    (V.need (0 < 1 ∧ 0 < 1)
    (V.need (Int.ofNat 0 ≤ x_1.fst ∧ x_1.fst < (↑c.nP : Int))
    (V.need (0 < 1 ∧ 0 + x_1.fst.toNat < c.nP)
    (V.need (0 < 1 ∧ 0 + x_1.fst.toNat < c.nP)
    (V.br (decide (x_3.fst < (↑(c.lenP (0 + x_1.fst.toNat)) : Int)))
    (V.need (0 < 1 ∧ 0 < 1)
    (V.need (0 < 1 ∧ 0 < 1)
    (V.need (Int.ofNat 0 ≤ x_1.fst ∧ x_1.fst < (↑c.nP : Int))
    (V.need (0 < 1 ∧ 0 + x_1.fst.toNat < c.nP)
    (V.need (0 < 1 ∧ 0 + x_1.fst.toNat < c.nP)
    (V.need (Int.ofNat 0 ≤ x_3.fst ∧ x_3.fst < (↑(c.lenP (0 + x_1.fst.toNat)) : Int))
    (V.need (0 + x_1.fst.toNat < c.nP ∧ 0 + x_3.fst.toNat < c.lenP (0 + x_1.fst.toNat))
    (V.need (0 + x_1.fst.toNat < c.nP ∧ 0 + x_3.fst.toNat < c.lenP (0 + x_1.fst.toNat))
    (V.need (0 + x_1.fst.toNat < c.nP ∧ 0 + x_3.fst.toNat < c.lenP (0 + x_1.fst.toNat))
    (V.need (0 + x_1.fst.toNat < c.nP ∧ 0 + x_3.fst.toNat < c.lenP (0 + x_1.fst.toNat))
    (V.need (c.iO (0 + x_1.fst.toNat) (0 + x_3.fst.toNat) = c.iO (0 + x_1.fst.toNat) (0 + x_3.fst.toNat))
    (V.need (Int.ofNat 3 = Int.ofNat 3)
    (V.need (x_3.snd.fst.n = x_3.snd.fst.n)
    (V.need (x_3.snd.snd = x_3.snd.snd)
    (V.need (x_3.snd.fst.bad = x_3.snd.fst.bad)
    (V.need (x_3.snd.snd = x_3.snd.snd)
    (V.need (x_3.snd.fst.n ≤ x_3.snd.fst.n)
    (V.need (∀ (e : Nat), e < x_3.snd.fst.n → x_3.snd.fst.g e = x_3.snd.fst.g e)
    (V.need (preW (Bw.mk x_3.snd.fst.n (fun (e : Nat) => x_3.snd.fst.g e) x_3.snd.fst.bad) x_3.snd.snd (Int.ofNat 3))
    (V.need (∃ (x : Bw × Nat), x.fst = (Bw.mk x_3.snd.fst.n (fun (e : Nat) => x_3.snd.fst.g e) x_3.snd.fst.bad).put (c.iO (0 + x_1.fst.toNat) (0 + x_3.fst.toNat)) (Int.ofNat 3) ∧ x.fst.n ≤ x.snd)
    (V.any (Bw × Nat) (fun (x : Bw × Nat) => x.fst = (Bw.mk x_3.snd.fst.n (fun (e : Nat) => x_3.snd.fst.g e) x_3.snd.fst.bad).put (c.iO (0 + x_1.fst.toNat) (0 + x_3.fst.toNat)) (Int.ofNat 3) ∧ x.fst.n ≤ x.snd) fun (x : Bw × Nat) => V.br (c.iO (0 + x_1.fst.toNat) (0 + x_3.fst.toNat) == Int.ofNat 0)
    (V.need (IntKind.i64.wrap (c.iA (0 + x_1.fst.toNat) (0 + x_3.fst.toNat) - Int.ofNat 1) = IntKind.i64.wrap (c.iA (0 + x_1.fst.toNat) (0 + x_3.fst.toNat) - Int.ofNat 1))
    (V.need (Int.ofNat 4 = Int.ofNat 4)
    (V.need (x.fst.n = x.fst.n)
    (V.need (x.snd = x.snd)
    (V.need (x.fst.bad = x.fst.bad)
    (V.need (x.snd = x.snd)
    (V.need (x.fst.n ≤ x.fst.n)
    (V.need (∀ (e : Nat), e < x.fst.n → x.fst.g e = x.fst.g e)
    (V.need (preW (Bw.mk x.fst.n (fun (e : Nat) => x.fst.g e) x.fst.bad) x.snd (Int.ofNat 4))
    (V.need (∃ (x_4 : Bw × Nat), x_4.fst = (Bw.mk x.fst.n (fun (e : Nat) => x.fst.g e) x.fst.bad).put (IntKind.i64.wrap (c.iA (0 + x_1.fst.toNat) (0 + x_3.fst.toNat) - Int.ofNat 1)) (Int.ofNat 4) ∧ x_4.fst.n ≤ x_4.snd)
    (V.any (Bw × Nat) (fun (x_4 : Bw × Nat) => x_4.fst = (Bw.mk x.fst.n (fun (e : Nat) => x.fst.g e) x.fst.bad).put (IntKind.i64.wrap (c.iA (0 + x_1.fst.toNat) (0 + x_3.fst.toNat) - Int.ofNat 1)) (Int.ofNat 4) ∧ x_4.fst.n ≤ x_4.snd) fun (x : Bw × Nat) => V.need (isI c (putIs c x_1.fst.toNat 0 (c.lenP x_1.fst.toNat) (Bw.mk x_2.fst.n (fun (e : Nat) => x_2.fst.g e) x_2.fst.bad)) x_1.fst.toNat (IntKind.i64.wrap (x_3.fst + Int.ofNat 1)) (Bw.mk x.fst.n (fun (e : Nat) => x.fst.g e) x.fst.bad) ∧ x.fst.n ≤ x.snd)
    (V.need (c.lenP x_1.fst.toNat - (IntKind.i64.wrap (x_3.fst + Int.ofNat 1)).toNat < c.lenP x_1.fst.toNat - x_3.fst.toNat)
    (V.need (IntKind.i64.wrap (x_3.fst + Int.ofNat 1) = IntKind.i64.wrap (x_3.fst + Int.ofNat 1))
    (V.need (x.fst.n = x.fst.n)
    (V.need (x.snd = x.snd)
    (V.need (x.fst.bad = x.fst.bad)
    (V.need (x.snd = x.snd)
    (V.need (x.fst.n ≤ x.fst.n)
    (V.need (∀ (e : Nat), e < x.fst.n → x.fst.g e = x.fst.g e) V.ok)))))))))))))))))))
    (V.br (c.iO (0 + x_1.fst.toNat) (0 + x_3.fst.toNat) == Int.ofNat 1)
    (V.need (c.iA (0 + x_1.fst.toNat) (0 + x_3.fst.toNat) = c.iA (0 + x_1.fst.toNat) (0 + x_3.fst.toNat))
    (V.need ((↑c.nP : Int) = (↑c.nP : Int))
    (V.need (x.fst.n = x.fst.n)
    (V.need (x.snd = x.snd)
    (V.need (x.fst.bad = x.fst.bad)
    (V.need (x.snd = x.snd)
    (V.need (x.fst.n ≤ x.fst.n)
    (V.need (∀ (e : Nat), e < x.fst.n → x.fst.g e = x.fst.g e)
    (V.need (preW (Bw.mk x.fst.n (fun (e : Nat) => x.fst.g e) x.fst.bad) x.snd (↑c.nP : Int))
    (V.need (∃ (x_4 : Bw × Nat), x_4.fst = (Bw.mk x.fst.n (fun (e : Nat) => x.fst.g e) x.fst.bad).put (c.iA (0 + x_1.fst.toNat) (0 + x_3.fst.toNat)) (↑c.nP : Int) ∧ x_4.fst.n ≤ x_4.snd)
    (V.any (Bw × Nat) (fun (x_4 : Bw × Nat) => x_4.fst = (Bw.mk x.fst.n (fun (e : Nat) => x.fst.g e) x.fst.bad).put (c.iA (0 + x_1.fst.toNat) (0 + x_3.fst.toNat)) (↑c.nP : Int) ∧ x_4.fst.n ≤ x_4.snd) fun (x : Bw × Nat) => V.need (0 < 1 ∧ 0 < 1)
    (V.need (0 < 1 ∧ 0 < 1)
    (V.need (c.iB (0 + x_1.fst.toNat) (0 + x_3.fst.toNat) = c.iB (0 + x_1.fst.toNat) (0 + x_3.fst.toNat))
    (V.need (c.L = c.L)
    (V.need (x.fst.n = x.fst.n)
    (V.need (x.snd = x.snd)
    (V.need (x.fst.bad = x.fst.bad)
    (V.need (x.snd = x.snd)
    (V.need (x.fst.n ≤ x.fst.n)
    (V.need (∀ (e : Nat), e < x.fst.n → x.fst.g e = x.fst.g e)
    (V.need (preW (Bw.mk x.fst.n (fun (e : Nat) => x.fst.g e) x.fst.bad) x.snd c.L)
    (V.need (∃ (x_4 : Bw × Nat), x_4.fst = (Bw.mk x.fst.n (fun (e : Nat) => x.fst.g e) x.fst.bad).put (c.iB (0 + x_1.fst.toNat) (0 + x_3.fst.toNat)) c.L ∧ x_4.fst.n ≤ x_4.snd)
    (V.any (Bw × Nat) (fun (x_4 : Bw × Nat) => x_4.fst = (Bw.mk x.fst.n (fun (e : Nat) => x.fst.g e) x.fst.bad).put (c.iB (0 + x_1.fst.toNat) (0 + x_3.fst.toNat)) c.L ∧ x_4.fst.n ≤ x_4.snd) fun (x : Bw × Nat) => V.need (isI c (putIs c x_1.fst.toNat 0 (c.lenP x_1.fst.toNat) (Bw.mk x_2.fst.n (fun (e : Nat) => x_2.fst.g e) x_2.fst.bad)) x_1.fst.toNat (IntKind.i64.wrap (x_3.fst + Int.ofNat 1)) (Bw.mk x.fst.n (fun (e : Nat) => x.fst.g e) x.fst.bad) ∧ x.fst.n ≤ x.snd)
    (V.need (c.lenP x_1.fst.toNat - (IntKind.i64.wrap (x_3.fst + Int.ofNat 1)).toNat < c.lenP x_1.fst.toNat - x_3.fst.toNat)
    (V.need (IntKind.i64.wrap (x_3.fst + Int.ofNat 1) = IntKind.i64.wrap (x_3.fst + Int.ofNat 1))
    (V.need (x.fst.n = x.fst.n)
    (V.need (x.snd = x.snd)
    (V.need (x.fst.bad = x.fst.bad)
    (V.need (x.snd = x.snd)
    (V.need (x.fst.n ≤ x.fst.n)
    (V.need (∀ (e : Nat), e < x.fst.n → x.fst.g e = x.fst.g e) V.ok)))))))))))))))))))))))))))))))
    (V.need (c.iA (0 + x_1.fst.toNat) (0 + x_3.fst.toNat) = c.iA (0 + x_1.fst.toNat) (0 + x_3.fst.toNat))
    (V.need (Int.ofNat 4 = Int.ofNat 4)
    (V.need (x.fst.n = x.fst.n)
    (V.need (x.snd = x.snd)
    (V.need (x.fst.bad = x.fst.bad)
    (V.need (x.snd = x.snd)
    (V.need (x.fst.n ≤ x.fst.n)
    (V.need (∀ (e : Nat), e < x.fst.n → x.fst.g e = x.fst.g e)
    (V.need (preW (Bw.mk x.fst.n (fun (e : Nat) => x.fst.g e) x.fst.bad) x.snd (Int.ofNat 4))
    (V.need (∃ (x_4 : Bw × Nat), x_4.fst = (Bw.mk x.fst.n (fun (e : Nat) => x.fst.g e) x.fst.bad).put (c.iA (0 + x_1.fst.toNat) (0 + x_3.fst.toNat)) (Int.ofNat 4) ∧ x_4.fst.n ≤ x_4.snd)
    (V.any (Bw × Nat) (fun (x_4 : Bw × Nat) => x_4.fst = (Bw.mk x.fst.n (fun (e : Nat) => x.fst.g e) x.fst.bad).put (c.iA (0 + x_1.fst.toNat) (0 + x_3.fst.toNat)) (Int.ofNat 4) ∧ x_4.fst.n ≤ x_4.snd) fun (x : Bw × Nat) => V.need (isI c (putIs c x_1.fst.toNat 0 (c.lenP x_1.fst.toNat) (Bw.mk x_2.fst.n (fun (e : Nat) => x_2.fst.g e) x_2.fst.bad)) x_1.fst.toNat (IntKind.i64.wrap (x_3.fst + Int.ofNat 1)) (Bw.mk x.fst.n (fun (e : Nat) => x.fst.g e) x.fst.bad) ∧ x.fst.n ≤ x.snd)
    (V.need (c.lenP x_1.fst.toNat - (IntKind.i64.wrap (x_3.fst + Int.ofNat 1)).toNat < c.lenP x_1.fst.toNat - x_3.fst.toNat)
    (V.need (IntKind.i64.wrap (x_3.fst + Int.ofNat 1) = IntKind.i64.wrap (x_3.fst + Int.ofNat 1))
    (V.need (x.fst.n = x.fst.n)
    (V.need (x.snd = x.snd)
    (V.need (x.fst.bad = x.fst.bad)
    (V.need (x.snd = x.snd)
    (V.need (x.fst.n ≤ x.fst.n)
    (V.need (∀ (e : Nat), e < x.fst.n → x.fst.g e = x.fst.g e) V.ok)))))))))))))))))))))))))))))))))))))))))
    (V.need (psI c (putPs c 0 c.nP (Bw.mk x.fst.n (fun (e : Nat) => x.fst.g e) x.fst.bad)) (IntKind.i64.wrap (x_1.fst + Int.ofNat 1)) (Bw.mk x_3.snd.fst.n (fun (e : Nat) => x_3.snd.fst.g e) x_3.snd.fst.bad) ∧ x_3.snd.fst.n ≤ x_3.snd.snd)
    (V.need (c.nP - (IntKind.i64.wrap (x_1.fst + Int.ofNat 1)).toNat < c.nP - x_1.fst.toNat)
    (V.need (IntKind.i64.wrap (x_1.fst + Int.ofNat 1) = IntKind.i64.wrap (x_1.fst + Int.ofNat 1))
    (V.need (x_3.snd.fst.n = x_3.snd.fst.n)
    (V.need (x_3.snd.snd = x_3.snd.snd)
    (V.need (x_3.snd.fst.bad = x_3.snd.fst.bad)
    (V.need (x_3.snd.snd = x_3.snd.snd)
    (V.need (x_3.snd.fst.n ≤ x_3.snd.fst.n)
    (V.need (∀ (e : Nat), e < x_3.snd.fst.n → x_3.snd.fst.g e = x_3.snd.fst.g e) V.ok))))))))))))))))))))))))))))))))))))))
    (V.need ((↑c.nU : Int) = (↑c.nU : Int))
    (V.need (Int.ofNat 6 = Int.ofNat 6)
    (V.need (x_1.snd.fst.n = x_1.snd.fst.n)
    (V.need (x_1.snd.snd = x_1.snd.snd)
    (V.need (x_1.snd.fst.bad = x_1.snd.fst.bad)
    (V.need (x_1.snd.snd = x_1.snd.snd)
    (V.need (x_1.snd.fst.n ≤ x_1.snd.fst.n)
    (V.need (∀ (e : Nat), e < x_1.snd.fst.n → x_1.snd.fst.g e = x_1.snd.fst.g e)
    (V.need (preW (Bw.mk x_1.snd.fst.n (fun (e : Nat) => x_1.snd.fst.g e) x_1.snd.fst.bad) x_1.snd.snd (Int.ofNat 6))
    (V.need (∃ (x : Bw × Nat), x.fst = (Bw.mk x_1.snd.fst.n (fun (e : Nat) => x_1.snd.fst.g e) x_1.snd.fst.bad).put (↑c.nU : Int) (Int.ofNat 6) ∧ x.fst.n ≤ x.snd)
    (V.any (Bw × Nat) (fun (x : Bw × Nat) => x.fst = (Bw.mk x_1.snd.fst.n (fun (e : Nat) => x_1.snd.fst.g e) x_1.snd.fst.bad).put (↑c.nU : Int) (Int.ofNat 6) ∧ x.fst.n ≤ x.snd) fun (x : Bw × Nat) => V.need (usI c (putUs c 0 c.nU (Bw.mk x.fst.n (fun (e : Nat) => x.fst.g e) x.fst.bad)) (Int.ofNat 0) (Bw.mk x.fst.n (fun (e : Nat) => x.fst.g e) x.fst.bad) ∧ x.fst.n ≤ x.snd)
    (V.need (Int.ofNat 0 = Int.ofNat 0)
    (V.need (x.fst.n = x.fst.n)
    (V.need (x.snd = x.snd)
    (V.need (x.fst.bad = x.fst.bad)
    (V.need (x.snd = x.snd)
    (V.need (x.fst.n ≤ x.fst.n)
    (V.need (∀ (e : Nat), e < x.fst.n → x.fst.g e = x.fst.g e)
    (V.any (Int × Bw × Nat) (fun (x_2 : Int × Bw × Nat) => usI c (putUs c 0 c.nU (Bw.mk x.fst.n (fun (e : Nat) => x.fst.g e) x.fst.bad)) x_2.fst x_2.snd.fst ∧ x_2.snd.fst.n ≤ x_2.snd.snd) fun (x_2 : Int × Bw × Nat) => V.need (0 < 1 ∧ 0 < 1)
    (V.need (0 < 1 ∧ 0 < 1)
    (V.br (decide (x_2.fst < (↑c.nU : Int)))
    (V.need (0 < 1 ∧ 0 < 1)
    (V.need (0 < 1 ∧ 0 < 1)
    (V.need (Int.ofNat 0 ≤ x_2.fst ∧ x_2.fst < (↑c.nU : Int))
    (V.need (0 < 1 ∧ 0 + x_2.fst.toNat < c.nU)
    (V.need (0 < 1 ∧ 0 + x_2.fst.toNat < c.nU)
    (V.need (0 < 1 ∧ 0 + x_2.fst.toNat < c.nU)
    (V.need (c.uP (0 + x_2.fst.toNat) = c.uP (0 + x_2.fst.toNat))
    (V.need ((↑c.nP : Int) = (↑c.nP : Int))
    (V.need (x_2.snd.fst.n = x_2.snd.fst.n)
    (V.need (x_2.snd.snd = x_2.snd.snd)
    (V.need (x_2.snd.fst.bad = x_2.snd.fst.bad)
    (V.need (x_2.snd.snd = x_2.snd.snd)
    (V.need (x_2.snd.fst.n ≤ x_2.snd.fst.n)
    (V.need (∀ (e : Nat), e < x_2.snd.fst.n → x_2.snd.fst.g e = x_2.snd.fst.g e)
    (V.need (preW (Bw.mk x_2.snd.fst.n (fun (e : Nat) => x_2.snd.fst.g e) x_2.snd.fst.bad) x_2.snd.snd (↑c.nP : Int))
    (V.need (∃ (x : Bw × Nat), x.fst = (Bw.mk x_2.snd.fst.n (fun (e : Nat) => x_2.snd.fst.g e) x_2.snd.fst.bad).put (c.uP (0 + x_2.fst.toNat)) (↑c.nP : Int) ∧ x.fst.n ≤ x.snd)
    (V.any (Bw × Nat) (fun (x : Bw × Nat) => x.fst = (Bw.mk x_2.snd.fst.n (fun (e : Nat) => x_2.snd.fst.g e) x_2.snd.fst.bad).put (c.uP (0 + x_2.fst.toNat)) (↑c.nP : Int) ∧ x.fst.n ≤ x.snd) fun (x_3 : Bw × Nat) => V.need (0 < 1 ∧ 0 < 1)
    (V.need (0 < 1 ∧ 0 < 1)
    (V.need (Int.ofNat 0 ≤ x_2.fst ∧ x_2.fst < (↑c.nU : Int))
    (V.need (0 < 1 ∧ 0 + x_2.fst.toNat < c.nU)
    (V.need (0 < 1 ∧ 0 + x_2.fst.toNat < c.nU)
    (V.need (0 < 1 ∧ 0 + x_2.fst.toNat < c.nU)
    (V.need (0 < 1 ∧ 0 < 1)
    (V.need (0 < 1 ∧ 0 < 1)
    (V.need (c.uL (0 + x_2.fst.toNat) = c.uL (0 + x_2.fst.toNat))
    (V.need (c.L = c.L)
    (V.need (x_3.fst.n = x_3.fst.n)
    (V.need (x_3.snd = x_3.snd)
    (V.need (x_3.fst.bad = x_3.fst.bad)
    (V.need (x_3.snd = x_3.snd)
    (V.need (x_3.fst.n ≤ x_3.fst.n)
    (V.need (∀ (e : Nat), e < x_3.fst.n → x_3.fst.g e = x_3.fst.g e)
    (V.need (preW (Bw.mk x_3.fst.n (fun (e : Nat) => x_3.fst.g e) x_3.fst.bad) x_3.snd c.L)
    (V.need (∃ (x : Bw × Nat), x.fst = (Bw.mk x_3.fst.n (fun (e : Nat) => x_3.fst.g e) x_3.fst.bad).put (c.uL (0 + x_2.fst.toNat)) c.L ∧ x.fst.n ≤ x.snd)
    (V.any (Bw × Nat) (fun (x : Bw × Nat) => x.fst = (Bw.mk x_3.fst.n (fun (e : Nat) => x_3.fst.g e) x_3.fst.bad).put (c.uL (0 + x_2.fst.toNat)) c.L ∧ x.fst.n ≤ x.snd) fun (x_4 : Bw × Nat) => V.need (0 < 1 ∧ 0 < 1)
    (V.need (0 < 1 ∧ 0 < 1)
    (V.need (Int.ofNat 0 ≤ x_2.fst ∧ x_2.fst < (↑c.nU : Int))
    (V.need (0 < 1 ∧ 0 + x_2.fst.toNat < c.nU)
    (V.need (0 < 1 ∧ 0 + x_2.fst.toNat < c.nU)
    (V.need (0 < 1 ∧ 0 + x_2.fst.toNat < c.nU)
    (V.need (c.uD (0 + x_2.fst.toNat) = c.uD (0 + x_2.fst.toNat))
    (V.need (Int.ofNat 16 = Int.ofNat 16)
    (V.need (x_4.fst.n = x_4.fst.n)
    (V.need (x_4.snd = x_4.snd)
    (V.need (x_4.fst.bad = x_4.fst.bad)
    (V.need (x_4.snd = x_4.snd)
    (V.need (x_4.fst.n ≤ x_4.fst.n)
    (V.need (∀ (e : Nat), e < x_4.fst.n → x_4.fst.g e = x_4.fst.g e)
    (V.need (preW (Bw.mk x_4.fst.n (fun (e : Nat) => x_4.fst.g e) x_4.fst.bad) x_4.snd (Int.ofNat 16))
    (V.need (∃ (x : Bw × Nat), x.fst = (Bw.mk x_4.fst.n (fun (e : Nat) => x_4.fst.g e) x_4.fst.bad).put (c.uD (0 + x_2.fst.toNat)) (Int.ofNat 16) ∧ x.fst.n ≤ x.snd)
    (V.any (Bw × Nat) (fun (x : Bw × Nat) => x.fst = (Bw.mk x_4.fst.n (fun (e : Nat) => x_4.fst.g e) x_4.fst.bad).put (c.uD (0 + x_2.fst.toNat)) (Int.ofNat 16) ∧ x.fst.n ≤ x.snd) fun (x_5 : Bw × Nat) => V.need (usI c (putUs c 0 c.nU (Bw.mk x.fst.n (fun (e : Nat) => x.fst.g e) x.fst.bad)) (IntKind.i64.wrap (x_2.fst + Int.ofNat 1)) (Bw.mk x_5.fst.n (fun (e : Nat) => x_5.fst.g e) x_5.fst.bad) ∧ x_5.fst.n ≤ x_5.snd)
    (V.need (c.nU - (IntKind.i64.wrap (x_2.fst + Int.ofNat 1)).toNat < c.nU - x_2.fst.toNat)
    (V.need (IntKind.i64.wrap (x_2.fst + Int.ofNat 1) = IntKind.i64.wrap (x_2.fst + Int.ofNat 1))
    (V.need (x_5.fst.n = x_5.fst.n)
    (V.need (x_5.snd = x_5.snd)
    (V.need (x_5.fst.bad = x_5.fst.bad)
    (V.need (x_5.snd = x_5.snd)
    (V.need (x_5.fst.n ≤ x_5.fst.n)
    (V.need (∀ (e : Nat), e < x_5.fst.n → x_5.fst.g e = x_5.fst.g e) V.ok)))))))))))))))))))))))))))))))))))))))))))))))))))))))))))
    (V.br x_2.snd.fst.bad
    (V.need (goodB c = false)
    (V.need True
    (V.need (Int.ofNat 1 = errB c) V.ok)))
    (V.need (x_2.snd.fst.n ≤ x_2.snd.fst.n ∧ trim (fun (e : Nat) => x_2.snd.fst.g e) x_2.snd.fst.n = trim (fun (e : Nat) => x_2.snd.fst.g e) x_2.snd.fst.n)
    (V.need (x_2.snd.fst.n = x_2.snd.fst.n)
    (V.need (x_2.snd.snd = x_2.snd.snd)
    (V.need (x_2.snd.fst.bad = x_2.snd.fst.bad)
    (V.any Nat (fun (n : Nat) => n ≤ x_2.snd.fst.n ∧ trim (fun (e : Nat) => x_2.snd.fst.g e) n = trim (fun (e : Nat) => x_2.snd.fst.g e) x_2.snd.fst.n) fun (x : Nat) => V.need (0 < 1 ∧ 0 < 1)
    (V.need (0 < 1 ∧ 0 < 1)
    (V.need (0 < 1 ∧ 0 < 1)
    (V.br (decide ((↑x : Int) > Int.ofNat 0))
    (V.need (0 < 1 ∧ 0 < 1)
    (V.need (0 < 1 ∧ 0 < 1)
    (V.need (0 < 1 ∧ 0 < 1)
    (V.need (0 < 1 ∧ 0 < 1)
    (V.need (0 < 1 ∧ 0 < 1)
    (V.need (0 < 1 ∧ 0 < 1)
    (V.need (Int.ofNat 0 ≤ IntKind.i64.wrap ((↑x : Int) - Int.ofNat 1) ∧ IntKind.i64.wrap ((↑x : Int) - Int.ofNat 1) < (↑x : Int))
    (V.need (0 < 1 ∧ 0 + (IntKind.i64.wrap ((↑x : Int) - Int.ofNat 1)).toNat < x_2.snd.fst.n)
    (V.need (0 < 1 ∧ 0 + (IntKind.i64.wrap ((↑x : Int) - Int.ofNat 1)).toNat < x_2.snd.fst.n)
    (V.br (x_2.snd.fst.g (0 + (IntKind.i64.wrap ((↑x : Int) - Int.ofNat 1)).toNat) == Int.ofNat 0)
    (V.need (0 < 1 ∧ 0 < 1)
    (V.need (0 < 1 ∧ 0 < 1)
    (V.need (0 < 1 ∧ 0 < 1)
    (V.need (0 < 1 ∧ 0 < 1)
    (V.need (0 < 1 ∧ 0 < 1)
    (V.need (0 < 1 ∧ 0 < 1)
    (V.need (Int.ofNat 0 ≤ Int.ofNat 0 ∧ Int.ofNat 0 ≤ IntKind.i64.wrap ((↑x : Int) - Int.ofNat 1) ∧ IntKind.i64.wrap ((↑x : Int) - Int.ofNat 1) ≤ (↑x_2.snd.snd : Int))
    (V.need (0 < 1 ∧ 0 < 1)
    (V.need (0 < 1 ∧ 0 < 1)
    (V.need ((IntKind.i64.wrap ((↑x : Int) - Int.ofNat 1)).toNat ≤ x_2.snd.fst.n ∧ trim (fun (e : Nat) => x_2.snd.fst.g e) (IntKind.i64.wrap ((↑x : Int) - Int.ofNat 1)).toNat = trim (fun (e : Nat) => x_2.snd.fst.g e) x_2.snd.fst.n)
    (V.need ((IntKind.i64.wrap ((↑x : Int) - Int.ofNat 1)).toNat < x)
    (V.need ((IntKind.i64.wrap ((↑x : Int) - Int.ofNat 1)).toNat = (IntKind.i64.wrap ((↑x : Int) - Int.ofNat 1)).toNat)
    (V.need (x_2.snd.snd = x_2.snd.snd)
    (V.need (x_2.snd.fst.bad = x_2.snd.fst.bad) V.ok))))))))))))))
    (V.need (goodB c = true)
    (V.need (lenE c ≤ x_2.snd.snd)
    (V.need (x = lenE c)
    (V.need (x_2.snd.snd = x_2.snd.snd)
    (V.need (Int.ofNat 0 = Int.ofNat 0)
    (V.need (x_2.snd.snd = x_2.snd.snd)
    (V.need (lenE c ≤ x_2.snd.fst.n)
    (V.need (∀ (e : Nat), e < lenE c → x_2.snd.fst.g e = (encB c).g e) V.ok))))))))))))))))))
    (V.need (goodB c = true)
    (V.need (lenE c ≤ x_2.snd.snd)
    (V.need (x = lenE c)
    (V.need (x_2.snd.snd = x_2.snd.snd)
    (V.need (Int.ofNat 0 = Int.ofNat 0)
    (V.need (x_2.snd.snd = x_2.snd.snd)
    (V.need (lenE c ≤ x_2.snd.fst.n)
    (V.need (∀ (e : Nat), e < lenE c → x_2.snd.fst.g e = (encB c).g e) V.ok)))))))))))))))))))))))))))))))))))))))
    (V.need ((↑c.nU : Int) = (↑c.nU : Int))
    (V.need (Int.ofNat 6 = Int.ofNat 6)
    (V.need (x_1.snd.fst.n = x_1.snd.fst.n)
    (V.need (x_1.snd.snd = x_1.snd.snd)
    (V.need (x_1.snd.fst.bad = x_1.snd.fst.bad)
    (V.need (x_1.snd.snd = x_1.snd.snd)
    (V.need (x_1.snd.fst.n ≤ x_1.snd.fst.n)
    (V.need (∀ (e : Nat), e < x_1.snd.fst.n → x_1.snd.fst.g e = x_1.snd.fst.g e)
    (V.need (preW (Bw.mk x_1.snd.fst.n (fun (e : Nat) => x_1.snd.fst.g e) x_1.snd.fst.bad) x_1.snd.snd (Int.ofNat 6))
    (V.need (∃ (x : Bw × Nat), x.fst = (Bw.mk x_1.snd.fst.n (fun (e : Nat) => x_1.snd.fst.g e) x_1.snd.fst.bad).put (↑c.nU : Int) (Int.ofNat 6) ∧ x.fst.n ≤ x.snd)
    (V.any (Bw × Nat) (fun (x : Bw × Nat) => x.fst = (Bw.mk x_1.snd.fst.n (fun (e : Nat) => x_1.snd.fst.g e) x_1.snd.fst.bad).put (↑c.nU : Int) (Int.ofNat 6) ∧ x.fst.n ≤ x.snd) fun (x : Bw × Nat) => V.need (usI c (putUs c 0 c.nU (Bw.mk x.fst.n (fun (e : Nat) => x.fst.g e) x.fst.bad)) (Int.ofNat 0) (Bw.mk x.fst.n (fun (e : Nat) => x.fst.g e) x.fst.bad) ∧ x.fst.n ≤ x.snd)
    (V.need (Int.ofNat 0 = Int.ofNat 0)
    (V.need (x.fst.n = x.fst.n)
    (V.need (x.snd = x.snd)
    (V.need (x.fst.bad = x.fst.bad)
    (V.need (x.snd = x.snd)
    (V.need (x.fst.n ≤ x.fst.n)
    (V.need (∀ (e : Nat), e < x.fst.n → x.fst.g e = x.fst.g e)
    (V.any (Int × Bw × Nat) (fun (x_2 : Int × Bw × Nat) => usI c (putUs c 0 c.nU (Bw.mk x.fst.n (fun (e : Nat) => x.fst.g e) x.fst.bad)) x_2.fst x_2.snd.fst ∧ x_2.snd.fst.n ≤ x_2.snd.snd) fun (x_2 : Int × Bw × Nat) => V.need (0 < 1 ∧ 0 < 1)
    (V.need (0 < 1 ∧ 0 < 1)
    (V.br (decide (x_2.fst < (↑c.nU : Int)))
    (V.need (0 < 1 ∧ 0 < 1)
    (V.need (0 < 1 ∧ 0 < 1)
    (V.need (Int.ofNat 0 ≤ x_2.fst ∧ x_2.fst < (↑c.nU : Int))
    (V.need (0 < 1 ∧ 0 + x_2.fst.toNat < c.nU)
    (V.need (0 < 1 ∧ 0 + x_2.fst.toNat < c.nU)
    (V.need (0 < 1 ∧ 0 + x_2.fst.toNat < c.nU)
    (V.need (c.uP (0 + x_2.fst.toNat) = c.uP (0 + x_2.fst.toNat))
    (V.need ((↑c.nP : Int) = (↑c.nP : Int))
    (V.need (x_2.snd.fst.n = x_2.snd.fst.n)
    (V.need (x_2.snd.snd = x_2.snd.snd)
    (V.need (x_2.snd.fst.bad = x_2.snd.fst.bad)
    (V.need (x_2.snd.snd = x_2.snd.snd)
    (V.need (x_2.snd.fst.n ≤ x_2.snd.fst.n)
    (V.need (∀ (e : Nat), e < x_2.snd.fst.n → x_2.snd.fst.g e = x_2.snd.fst.g e)
    (V.need (preW (Bw.mk x_2.snd.fst.n (fun (e : Nat) => x_2.snd.fst.g e) x_2.snd.fst.bad) x_2.snd.snd (↑c.nP : Int))
    (V.need (∃ (x : Bw × Nat), x.fst = (Bw.mk x_2.snd.fst.n (fun (e : Nat) => x_2.snd.fst.g e) x_2.snd.fst.bad).put (c.uP (0 + x_2.fst.toNat)) (↑c.nP : Int) ∧ x.fst.n ≤ x.snd)
    (V.any (Bw × Nat) (fun (x : Bw × Nat) => x.fst = (Bw.mk x_2.snd.fst.n (fun (e : Nat) => x_2.snd.fst.g e) x_2.snd.fst.bad).put (c.uP (0 + x_2.fst.toNat)) (↑c.nP : Int) ∧ x.fst.n ≤ x.snd) fun (x_3 : Bw × Nat) => V.need (0 < 1 ∧ 0 < 1)
    (V.need (0 < 1 ∧ 0 < 1)
    (V.need (Int.ofNat 0 ≤ x_2.fst ∧ x_2.fst < (↑c.nU : Int))
    (V.need (0 < 1 ∧ 0 + x_2.fst.toNat < c.nU)
    (V.need (0 < 1 ∧ 0 + x_2.fst.toNat < c.nU)
    (V.need (0 < 1 ∧ 0 + x_2.fst.toNat < c.nU)
    (V.need (0 < 1 ∧ 0 < 1)
    (V.need (0 < 1 ∧ 0 < 1)
    (V.need (c.uL (0 + x_2.fst.toNat) = c.uL (0 + x_2.fst.toNat))
    (V.need (c.L = c.L)
    (V.need (x_3.fst.n = x_3.fst.n)
    (V.need (x_3.snd = x_3.snd)
    (V.need (x_3.fst.bad = x_3.fst.bad)
    (V.need (x_3.snd = x_3.snd)
    (V.need (x_3.fst.n ≤ x_3.fst.n)
    (V.need (∀ (e : Nat), e < x_3.fst.n → x_3.fst.g e = x_3.fst.g e)
    (V.need (preW (Bw.mk x_3.fst.n (fun (e : Nat) => x_3.fst.g e) x_3.fst.bad) x_3.snd c.L)
    (V.need (∃ (x : Bw × Nat), x.fst = (Bw.mk x_3.fst.n (fun (e : Nat) => x_3.fst.g e) x_3.fst.bad).put (c.uL (0 + x_2.fst.toNat)) c.L ∧ x.fst.n ≤ x.snd)
    (V.any (Bw × Nat) (fun (x : Bw × Nat) => x.fst = (Bw.mk x_3.fst.n (fun (e : Nat) => x_3.fst.g e) x_3.fst.bad).put (c.uL (0 + x_2.fst.toNat)) c.L ∧ x.fst.n ≤ x.snd) fun (x_4 : Bw × Nat) => V.need (0 < 1 ∧ 0 < 1)
    (V.need (0 < 1 ∧ 0 < 1)
    (V.need (Int.ofNat 0 ≤ x_2.fst ∧ x_2.fst < (↑c.nU : Int))
    (V.need (0 < 1 ∧ 0 + x_2.fst.toNat < c.nU)
    (V.need (0 < 1 ∧ 0 + x_2.fst.toNat < c.nU)
    (V.need (0 < 1 ∧ 0 + x_2.fst.toNat < c.nU)
    (V.need (c.uD (0 + x_2.fst.toNat) = c.uD (0 + x_2.fst.toNat))
    (V.need (Int.ofNat 16 = Int.ofNat 16)
    (V.need (x_4.fst.n = x_4.fst.n)
    (V.need (x_4.snd = x_4.snd)
    (V.need (x_4.fst.bad = x_4.fst.bad)
    (V.need (x_4.snd = x_4.snd)
    (V.need (x_4.fst.n ≤ x_4.fst.n)
    (V.need (∀ (e : Nat), e < x_4.fst.n → x_4.fst.g e = x_4.fst.g e)
    (V.need (preW (Bw.mk x_4.fst.n (fun (e : Nat) => x_4.fst.g e) x_4.fst.bad) x_4.snd (Int.ofNat 16))
    (V.need (∃ (x : Bw × Nat), x.fst = (Bw.mk x_4.fst.n (fun (e : Nat) => x_4.fst.g e) x_4.fst.bad).put (c.uD (0 + x_2.fst.toNat)) (Int.ofNat 16) ∧ x.fst.n ≤ x.snd)
    (V.any (Bw × Nat) (fun (x : Bw × Nat) => x.fst = (Bw.mk x_4.fst.n (fun (e : Nat) => x_4.fst.g e) x_4.fst.bad).put (c.uD (0 + x_2.fst.toNat)) (Int.ofNat 16) ∧ x.fst.n ≤ x.snd) fun (x_5 : Bw × Nat) => V.need (usI c (putUs c 0 c.nU (Bw.mk x.fst.n (fun (e : Nat) => x.fst.g e) x.fst.bad)) (IntKind.i64.wrap (x_2.fst + Int.ofNat 1)) (Bw.mk x_5.fst.n (fun (e : Nat) => x_5.fst.g e) x_5.fst.bad) ∧ x_5.fst.n ≤ x_5.snd)
    (V.need (c.nU - (IntKind.i64.wrap (x_2.fst + Int.ofNat 1)).toNat < c.nU - x_2.fst.toNat)
    (V.need (IntKind.i64.wrap (x_2.fst + Int.ofNat 1) = IntKind.i64.wrap (x_2.fst + Int.ofNat 1))
    (V.need (x_5.fst.n = x_5.fst.n)
    (V.need (x_5.snd = x_5.snd)
    (V.need (x_5.fst.bad = x_5.fst.bad)
    (V.need (x_5.snd = x_5.snd)
    (V.need (x_5.fst.n ≤ x_5.fst.n)
    (V.need (∀ (e : Nat), e < x_5.fst.n → x_5.fst.g e = x_5.fst.g e) V.ok)))))))))))))))))))))))))))))))))))))))))))))))))))))))))))
    (V.br x_2.snd.fst.bad
    (V.need (goodB c = false)
    (V.need True
    (V.need (Int.ofNat 1 = errB c) V.ok)))
    (V.need (x_2.snd.fst.n ≤ x_2.snd.fst.n ∧ trim (fun (e : Nat) => x_2.snd.fst.g e) x_2.snd.fst.n = trim (fun (e : Nat) => x_2.snd.fst.g e) x_2.snd.fst.n)
    (V.need (x_2.snd.fst.n = x_2.snd.fst.n)
    (V.need (x_2.snd.snd = x_2.snd.snd)
    (V.need (x_2.snd.fst.bad = x_2.snd.fst.bad)
    (V.any Nat (fun (n : Nat) => n ≤ x_2.snd.fst.n ∧ trim (fun (e : Nat) => x_2.snd.fst.g e) n = trim (fun (e : Nat) => x_2.snd.fst.g e) x_2.snd.fst.n) fun (x : Nat) => V.need (0 < 1 ∧ 0 < 1)
    (V.need (0 < 1 ∧ 0 < 1)
    (V.need (0 < 1 ∧ 0 < 1)
    (V.br (decide ((↑x : Int) > Int.ofNat 0))
    (V.need (0 < 1 ∧ 0 < 1)
    (V.need (0 < 1 ∧ 0 < 1)
    (V.need (0 < 1 ∧ 0 < 1)
    (V.need (0 < 1 ∧ 0 < 1)
    (V.need (0 < 1 ∧ 0 < 1)
    (V.need (0 < 1 ∧ 0 < 1)
    (V.need (Int.ofNat 0 ≤ IntKind.i64.wrap ((↑x : Int) - Int.ofNat 1) ∧ IntKind.i64.wrap ((↑x : Int) - Int.ofNat 1) < (↑x : Int))
    (V.need (0 < 1 ∧ 0 + (IntKind.i64.wrap ((↑x : Int) - Int.ofNat 1)).toNat < x_2.snd.fst.n)
    (V.need (0 < 1 ∧ 0 + (IntKind.i64.wrap ((↑x : Int) - Int.ofNat 1)).toNat < x_2.snd.fst.n)
    (V.br (x_2.snd.fst.g (0 + (IntKind.i64.wrap ((↑x : Int) - Int.ofNat 1)).toNat) == Int.ofNat 0)
    (V.need (0 < 1 ∧ 0 < 1)
    (V.need (0 < 1 ∧ 0 < 1)
    (V.need (0 < 1 ∧ 0 < 1)
    (V.need (0 < 1 ∧ 0 < 1)
    (V.need (0 < 1 ∧ 0 < 1)
    (V.need (0 < 1 ∧ 0 < 1)
    (V.need (Int.ofNat 0 ≤ Int.ofNat 0 ∧ Int.ofNat 0 ≤ IntKind.i64.wrap ((↑x : Int) - Int.ofNat 1) ∧ IntKind.i64.wrap ((↑x : Int) - Int.ofNat 1) ≤ (↑x_2.snd.snd : Int))
    (V.need (0 < 1 ∧ 0 < 1)
    (V.need (0 < 1 ∧ 0 < 1)
    (V.need ((IntKind.i64.wrap ((↑x : Int) - Int.ofNat 1)).toNat ≤ x_2.snd.fst.n ∧ trim (fun (e : Nat) => x_2.snd.fst.g e) (IntKind.i64.wrap ((↑x : Int) - Int.ofNat 1)).toNat = trim (fun (e : Nat) => x_2.snd.fst.g e) x_2.snd.fst.n)
    (V.need ((IntKind.i64.wrap ((↑x : Int) - Int.ofNat 1)).toNat < x)
    (V.need ((IntKind.i64.wrap ((↑x : Int) - Int.ofNat 1)).toNat = (IntKind.i64.wrap ((↑x : Int) - Int.ofNat 1)).toNat)
    (V.need (x_2.snd.snd = x_2.snd.snd)
    (V.need (x_2.snd.fst.bad = x_2.snd.fst.bad) V.ok))))))))))))))
    (V.need (goodB c = true)
    (V.need (lenE c ≤ x_2.snd.snd)
    (V.need (x = lenE c)
    (V.need (x_2.snd.snd = x_2.snd.snd)
    (V.need (Int.ofNat 0 = Int.ofNat 0)
    (V.need (x_2.snd.snd = x_2.snd.snd)
    (V.need (lenE c ≤ x_2.snd.fst.n)
    (V.need (∀ (e : Nat), e < lenE c → x_2.snd.fst.g e = (encB c).g e) V.ok))))))))))))))))))
    (V.need (goodB c = true)
    (V.need (lenE c ≤ x_2.snd.snd)
    (V.need (x = lenE c)
    (V.need (x_2.snd.snd = x_2.snd.snd)
    (V.need (Int.ofNat 0 = Int.ofNat 0)
    (V.need (x_2.snd.snd = x_2.snd.snd)
    (V.need (lenE c ≤ x_2.snd.fst.n)
    (V.need (∀ (e : Nat), e < lenE c → x_2.snd.fst.g e = (encB c).g e) V.ok)))))))))))))))))))))))))))))))))))))))))))))))))))))))))))))))))))))))))))))))))))))))))))))))))))))))))))))))))))))))))))))))))))))))))))))))))))))))))))))))))))))))))))))))) := by kernel_rfl

theorem verEncP_eq (c : Cf) : verEncP c =
  V.need (c.W = c.W)
    (V.need (c.L = c.L)
    (V.need (c.C = c.C)
    (V.need (c.T = c.T)
    (V.need (c.D = c.D)
    (V.need (c.H = c.H)
    (V.need (c.B = c.B)
    (V.need (c.A = c.A)
    (V.need (c.P = c.P)
    (V.need (c.nP = c.nP)
    (V.need (c.rc = c.rc)
    (V.need (c.nU = c.nU)
    (V.need (c.cu = c.cu)
    (V.need (1 ≤ 1)
    (V.need (∀ (i : Nat), i < 1 → c.nP ≤ c.nP)
    (V.need (∀ (i e : Nat), i < 1 ∧ e < c.nP → e = e)
    (V.need (∀ (i e : Nat), i < 1 ∧ e < c.nP → c.lenP e = c.lenP e)
    (V.need (∀ (i e : Nat), i < 1 ∧ e < c.nP → c.FC e = c.FC e)
    (V.need (1 ≤ 1)
    (V.need (∀ (i : Nat), i < 1 → c.nU ≤ c.nU)
    (V.need (∀ (i e : Nat), i < 1 ∧ e < c.nU → c.uP e = c.uP e)
    (V.need (∀ (i e : Nat), i < 1 ∧ e < c.nU → c.uL e = c.uL e)
    (V.need (∀ (i e : Nat), i < 1 ∧ e < c.nU → c.uD e = c.uD e)
    (V.need (c.nP ≤ c.nP)
    (V.need (∀ (i : Nat), i < c.nP → c.lenP i ≤ c.lenP i)
    (V.need (∀ (i e : Nat), i < c.nP ∧ e < c.lenP i → c.iO i e = c.iO i e)
    (V.need (∀ (i e : Nat), i < c.nP ∧ e < c.lenP i → c.iA i e = c.iA i e)
    (V.need (∀ (i e : Nat), i < c.nP ∧ e < c.lenP i → c.iB i e = c.iB i e)
    (V.need True
    (V.br (errE (Cf.mk c.W c.L c.C c.T c.D c.H c.B c.A c.P c.nP c.rc c.nU c.cu (fun (e : Nat) => c.lenP e) (fun (e : Nat) => c.FC e) (fun (i e : Nat) => c.iO i e) (fun (i e : Nat) => c.iA i e) (fun (i e : Nat) => c.iB i e) (fun (e : Nat) => c.uP e) (fun (e : Nat) => c.uL e) fun (e : Nat) => c.uD e) != Int.ofNat 0)
    (V.need (goodB c = false)
    (V.need True
    (V.need (errE (Cf.mk c.W c.L c.C c.T c.D c.H c.B c.A c.P c.nP c.rc c.nU c.cu (fun (e : Nat) => c.lenP e) (fun (e : Nat) => c.FC e) (fun (i e : Nat) => c.iO i e) (fun (i e : Nat) => c.iA i e) (fun (i e : Nat) => c.iB i e) (fun (e : Nat) => c.uP e) (fun (e : Nat) => c.uL e) fun (e : Nat) => c.uD e) = errB c) V.ok)))
    (V.need (IntKind.i64.wrap (c.W - Int.ofNat 1) = IntKind.i64.wrap (c.W - Int.ofNat 1))
    (V.need (Int.ofNat 4 = Int.ofNat 4)
    (V.need (0 = 0)
    (V.need (0 = 0)
    (V.need (false = false)
    (V.need (0 = 0)
    (V.need (0 ≤ 0)
    (V.need (∀ (e : Nat), e < 0 → Int.ofNat 0 = Int.ofNat 0)
    (V.need (preW (Bw.mk 0 (fun (e : Nat) => Int.ofNat 0) false) 0 (Int.ofNat 4))
    (V.need (∃ (x : Bw × Nat), x.fst = (Bw.mk 0 (fun (e : Nat) => Int.ofNat 0) false).put (IntKind.i64.wrap (c.W - Int.ofNat 1)) (Int.ofNat 4) ∧ x.fst.n ≤ x.snd)
    (V.any (Bw × Nat) (fun (x : Bw × Nat) => x.fst = (Bw.mk 0 (fun (e : Nat) => Int.ofNat 0) false).put (IntKind.i64.wrap (c.W - Int.ofNat 1)) (Int.ofNat 4) ∧ x.fst.n ≤ x.snd) fun (x : Bw × Nat) => V.need (IntKind.i64.wrap (c.L - Int.ofNat 1) = IntKind.i64.wrap (c.L - Int.ofNat 1))
    (V.need (Int.ofNat 4 = Int.ofNat 4)
    (V.need (x.fst.n = x.fst.n)
    (V.need (x.snd = x.snd)
    (V.need (x.fst.bad = x.fst.bad)
    (V.need (x.snd = x.snd)
    (V.need (x.fst.n ≤ x.fst.n)
    (V.need (∀ (e : Nat), e < x.fst.n → x.fst.g e = x.fst.g e)
    (V.need (preW (Bw.mk x.fst.n (fun (e : Nat) => x.fst.g e) x.fst.bad) x.snd (Int.ofNat 4))
    (V.need (∃ (x_1 : Bw × Nat), x_1.fst = (Bw.mk x.fst.n (fun (e : Nat) => x.fst.g e) x.fst.bad).put (IntKind.i64.wrap (c.L - Int.ofNat 1)) (Int.ofNat 4) ∧ x_1.fst.n ≤ x_1.snd)
    (V.any (Bw × Nat) (fun (x_1 : Bw × Nat) => x_1.fst = (Bw.mk x.fst.n (fun (e : Nat) => x.fst.g e) x.fst.bad).put (IntKind.i64.wrap (c.L - Int.ofNat 1)) (Int.ofNat 4) ∧ x_1.fst.n ≤ x_1.snd) fun (x : Bw × Nat) => V.need (IntKind.i64.wrap (c.C - Int.ofNat 1) = IntKind.i64.wrap (c.C - Int.ofNat 1))
    (V.need (min (Int.ofNat 3) c.L = min (Int.ofNat 3) c.L)
    (V.need (x.fst.n = x.fst.n)
    (V.need (x.snd = x.snd)
    (V.need (x.fst.bad = x.fst.bad)
    (V.need (x.snd = x.snd)
    (V.need (x.fst.n ≤ x.fst.n)
    (V.need (∀ (e : Nat), e < x.fst.n → x.fst.g e = x.fst.g e)
    (V.need (preW (Bw.mk x.fst.n (fun (e : Nat) => x.fst.g e) x.fst.bad) x.snd (min (Int.ofNat 3) c.L))
    (V.need (∃ (x_1 : Bw × Nat), x_1.fst = (Bw.mk x.fst.n (fun (e : Nat) => x.fst.g e) x.fst.bad).put (IntKind.i64.wrap (c.C - Int.ofNat 1)) (min (Int.ofNat 3) c.L) ∧ x_1.fst.n ≤ x_1.snd)
    (V.any (Bw × Nat) (fun (x_1 : Bw × Nat) => x_1.fst = (Bw.mk x.fst.n (fun (e : Nat) => x.fst.g e) x.fst.bad).put (IntKind.i64.wrap (c.C - Int.ofNat 1)) (min (Int.ofNat 3) c.L) ∧ x_1.fst.n ≤ x_1.snd) fun (x : Bw × Nat) => V.need (IntKind.i64.wrap (c.T - Int.ofNat 1) = IntKind.i64.wrap (c.T - Int.ofNat 1))
    (V.need (Int.ofNat 12 = Int.ofNat 12)
    (V.need (x.fst.n = x.fst.n)
    (V.need (x.snd = x.snd)
    (V.need (x.fst.bad = x.fst.bad)
    (V.need (x.snd = x.snd)
    (V.need (x.fst.n ≤ x.fst.n)
    (V.need (∀ (e : Nat), e < x.fst.n → x.fst.g e = x.fst.g e)
    (V.need (preW (Bw.mk x.fst.n (fun (e : Nat) => x.fst.g e) x.fst.bad) x.snd (Int.ofNat 12))
    (V.need (∃ (x_1 : Bw × Nat), x_1.fst = (Bw.mk x.fst.n (fun (e : Nat) => x.fst.g e) x.fst.bad).put (IntKind.i64.wrap (c.T - Int.ofNat 1)) (Int.ofNat 12) ∧ x_1.fst.n ≤ x_1.snd)
    (V.any (Bw × Nat) (fun (x_1 : Bw × Nat) => x_1.fst = (Bw.mk x.fst.n (fun (e : Nat) => x.fst.g e) x.fst.bad).put (IntKind.i64.wrap (c.T - Int.ofNat 1)) (Int.ofNat 12) ∧ x_1.fst.n ≤ x_1.snd) fun (x : Bw × Nat) => V.need (IntKind.i64.wrap (c.D - Int.ofNat 1) = IntKind.i64.wrap (c.D - Int.ofNat 1))
    (V.need (Int.ofNat 4 = Int.ofNat 4)
    (V.need (x.fst.n = x.fst.n)
    (V.need (x.snd = x.snd)
    (V.need (x.fst.bad = x.fst.bad)
    (V.need (x.snd = x.snd)
    (V.need (x.fst.n ≤ x.fst.n)
    (V.need (∀ (e : Nat), e < x.fst.n → x.fst.g e = x.fst.g e)
    (V.need (preW (Bw.mk x.fst.n (fun (e : Nat) => x.fst.g e) x.fst.bad) x.snd (Int.ofNat 4))
    (V.need (∃ (x_1 : Bw × Nat), x_1.fst = (Bw.mk x.fst.n (fun (e : Nat) => x.fst.g e) x.fst.bad).put (IntKind.i64.wrap (c.D - Int.ofNat 1)) (Int.ofNat 4) ∧ x_1.fst.n ≤ x_1.snd)
    (V.any (Bw × Nat) (fun (x_1 : Bw × Nat) => x_1.fst = (Bw.mk x.fst.n (fun (e : Nat) => x.fst.g e) x.fst.bad).put (IntKind.i64.wrap (c.D - Int.ofNat 1)) (Int.ofNat 4) ∧ x_1.fst.n ≤ x_1.snd) fun (x : Bw × Nat) => V.need (IntKind.i64.wrap (c.H - Int.ofNat 1) = IntKind.i64.wrap (c.H - Int.ofNat 1))
    (V.need (Int.ofNat 4 = Int.ofNat 4)
    (V.need (x.fst.n = x.fst.n)
    (V.need (x.snd = x.snd)
    (V.need (x.fst.bad = x.fst.bad)
    (V.need (x.snd = x.snd)
    (V.need (x.fst.n ≤ x.fst.n)
    (V.need (∀ (e : Nat), e < x.fst.n → x.fst.g e = x.fst.g e)
    (V.need (preW (Bw.mk x.fst.n (fun (e : Nat) => x.fst.g e) x.fst.bad) x.snd (Int.ofNat 4))
    (V.need (∃ (x_1 : Bw × Nat), x_1.fst = (Bw.mk x.fst.n (fun (e : Nat) => x.fst.g e) x.fst.bad).put (IntKind.i64.wrap (c.H - Int.ofNat 1)) (Int.ofNat 4) ∧ x_1.fst.n ≤ x_1.snd)
    (V.any (Bw × Nat) (fun (x_1 : Bw × Nat) => x_1.fst = (Bw.mk x.fst.n (fun (e : Nat) => x.fst.g e) x.fst.bad).put (IntKind.i64.wrap (c.H - Int.ofNat 1)) (Int.ofNat 4) ∧ x_1.fst.n ≤ x_1.snd) fun (x : Bw × Nat) => V.need (IntKind.i64.wrap (c.B - Int.ofNat 1) = IntKind.i64.wrap (c.B - Int.ofNat 1))
    (V.need (c.D = c.D)
    (V.need (x.fst.n = x.fst.n)
    (V.need (x.snd = x.snd)
    (V.need (x.fst.bad = x.fst.bad)
    (V.need (x.snd = x.snd)
    (V.need (x.fst.n ≤ x.fst.n)
    (V.need (∀ (e : Nat), e < x.fst.n → x.fst.g e = x.fst.g e)
    (V.need (preW (Bw.mk x.fst.n (fun (e : Nat) => x.fst.g e) x.fst.bad) x.snd c.D)
    (V.need (∃ (x_1 : Bw × Nat), x_1.fst = (Bw.mk x.fst.n (fun (e : Nat) => x.fst.g e) x.fst.bad).put (IntKind.i64.wrap (c.B - Int.ofNat 1)) c.D ∧ x_1.fst.n ≤ x_1.snd)
    (V.any (Bw × Nat) (fun (x_1 : Bw × Nat) => x_1.fst = (Bw.mk x.fst.n (fun (e : Nat) => x.fst.g e) x.fst.bad).put (IntKind.i64.wrap (c.B - Int.ofNat 1)) c.D ∧ x_1.fst.n ≤ x_1.snd) fun (x : Bw × Nat) => V.need (c.A = c.A)
    (V.need (Int.ofNat 6 = Int.ofNat 6)
    (V.need (x.fst.n = x.fst.n)
    (V.need (x.snd = x.snd)
    (V.need (x.fst.bad = x.fst.bad)
    (V.need (x.snd = x.snd)
    (V.need (x.fst.n ≤ x.fst.n)
    (V.need (∀ (e : Nat), e < x.fst.n → x.fst.g e = x.fst.g e)
    (V.need (preW (Bw.mk x.fst.n (fun (e : Nat) => x.fst.g e) x.fst.bad) x.snd (Int.ofNat 6))
    (V.need (∃ (x_1 : Bw × Nat), x_1.fst = (Bw.mk x.fst.n (fun (e : Nat) => x.fst.g e) x.fst.bad).put c.A (Int.ofNat 6) ∧ x_1.fst.n ≤ x_1.snd)
    (V.any (Bw × Nat) (fun (x_1 : Bw × Nat) => x_1.fst = (Bw.mk x.fst.n (fun (e : Nat) => x.fst.g e) x.fst.bad).put c.A (Int.ofNat 6) ∧ x_1.fst.n ≤ x_1.snd) fun (x : Bw × Nat) => V.need (IntKind.i64.wrap (c.P - Int.ofNat 1) = IntKind.i64.wrap (c.P - Int.ofNat 1))
    (V.need (Int.ofNat 8 = Int.ofNat 8)
    (V.need (x.fst.n = x.fst.n)
    (V.need (x.snd = x.snd)
    (V.need (x.fst.bad = x.fst.bad)
    (V.need (x.snd = x.snd)
    (V.need (x.fst.n ≤ x.fst.n)
    (V.need (∀ (e : Nat), e < x.fst.n → x.fst.g e = x.fst.g e)
    (V.need (preW (Bw.mk x.fst.n (fun (e : Nat) => x.fst.g e) x.fst.bad) x.snd (Int.ofNat 8))
    (V.need (∃ (x_1 : Bw × Nat), x_1.fst = (Bw.mk x.fst.n (fun (e : Nat) => x.fst.g e) x.fst.bad).put (IntKind.i64.wrap (c.P - Int.ofNat 1)) (Int.ofNat 8) ∧ x_1.fst.n ≤ x_1.snd)
    (V.any (Bw × Nat) (fun (x_1 : Bw × Nat) => x_1.fst = (Bw.mk x.fst.n (fun (e : Nat) => x.fst.g e) x.fst.bad).put (IntKind.i64.wrap (c.P - Int.ofNat 1)) (Int.ofNat 8) ∧ x_1.fst.n ≤ x_1.snd) fun (x : Bw × Nat) => V.need (IntKind.i64.wrap ((↑c.nP : Int) - Int.ofNat 1) = IntKind.i64.wrap ((↑c.nP : Int) - Int.ofNat 1))
    (V.need (Int.ofNat 4 = Int.ofNat 4)
    (V.need (x.fst.n = x.fst.n)
    (V.need (x.snd = x.snd)
    (V.need (x.fst.bad = x.fst.bad)
    (V.need (x.snd = x.snd)
    (V.need (x.fst.n ≤ x.fst.n)
    (V.need (∀ (e : Nat), e < x.fst.n → x.fst.g e = x.fst.g e)
    (V.need (preW (Bw.mk x.fst.n (fun (e : Nat) => x.fst.g e) x.fst.bad) x.snd (Int.ofNat 4))
    (V.need (∃ (x_1 : Bw × Nat), x_1.fst = (Bw.mk x.fst.n (fun (e : Nat) => x.fst.g e) x.fst.bad).put (IntKind.i64.wrap ((↑c.nP : Int) - Int.ofNat 1)) (Int.ofNat 4) ∧ x_1.fst.n ≤ x_1.snd)
    (V.any (Bw × Nat) (fun (x_1 : Bw × Nat) => x_1.fst = (Bw.mk x.fst.n (fun (e : Nat) => x.fst.g e) x.fst.bad).put (IntKind.i64.wrap ((↑c.nP : Int) - Int.ofNat 1)) (Int.ofNat 4) ∧ x_1.fst.n ≤ x_1.snd) fun (x : Bw × Nat) => V.need (psI c (putPs c 0 c.nP (Bw.mk x.fst.n (fun (e : Nat) => x.fst.g e) x.fst.bad)) (Int.ofNat 0) (Bw.mk x.fst.n (fun (e : Nat) => x.fst.g e) x.fst.bad) ∧ x.fst.n ≤ x.snd)
    (V.need (Int.ofNat 0 = Int.ofNat 0)
    (V.need (x.fst.n = x.fst.n)
    (V.need (x.snd = x.snd)
    (V.need (x.fst.bad = x.fst.bad)
    (V.need (x.snd = x.snd)
    (V.need (x.fst.n ≤ x.fst.n)
    (V.need (∀ (e : Nat), e < x.fst.n → x.fst.g e = x.fst.g e)
    (V.any (Int × Bw × Nat) (fun (x_1 : Int × Bw × Nat) => psI c (putPs c 0 c.nP (Bw.mk x.fst.n (fun (e : Nat) => x.fst.g e) x.fst.bad)) x_1.fst x_1.snd.fst ∧ x_1.snd.fst.n ≤ x_1.snd.snd) fun (x_1 : Int × Bw × Nat) => V.br (decide (x_1.fst < (↑c.nP : Int)))
    (V.need (Int.ofNat 0 ≤ x_1.fst ∧ x_1.fst < (↑c.nP : Int))
    (V.need (0 < 1 ∧ 0 + x_1.fst.toNat < c.nP)
    (V.need (0 < 1 ∧ 0 + x_1.fst.toNat < c.nP)
    (V.need ((↑(c.lenP (0 + x_1.fst.toNat)) : Int) = (↑(c.lenP (0 + x_1.fst.toNat)) : Int))
    (V.need (Int.ofNat 6 = Int.ofNat 6)
    (V.need (x_1.snd.fst.n = x_1.snd.fst.n)
    (V.need (x_1.snd.snd = x_1.snd.snd)
    (V.need (x_1.snd.fst.bad = x_1.snd.fst.bad)
    (V.need (x_1.snd.snd = x_1.snd.snd)
    (V.need (x_1.snd.fst.n ≤ x_1.snd.fst.n)
    (V.need (∀ (e : Nat), e < x_1.snd.fst.n → x_1.snd.fst.g e = x_1.snd.fst.g e)
    (V.need (preW (Bw.mk x_1.snd.fst.n (fun (e : Nat) => x_1.snd.fst.g e) x_1.snd.fst.bad) x_1.snd.snd (Int.ofNat 6))
    (V.need (∃ (x : Bw × Nat), x.fst = (Bw.mk x_1.snd.fst.n (fun (e : Nat) => x_1.snd.fst.g e) x_1.snd.fst.bad).put (↑(c.lenP (0 + x_1.fst.toNat)) : Int) (Int.ofNat 6) ∧ x.fst.n ≤ x.snd)
    (V.any (Bw × Nat) (fun (x : Bw × Nat) => x.fst = (Bw.mk x_1.snd.fst.n (fun (e : Nat) => x_1.snd.fst.g e) x_1.snd.fst.bad).put (↑(c.lenP (0 + x_1.fst.toNat)) : Int) (Int.ofNat 6) ∧ x.fst.n ≤ x.snd) fun (x_2 : Bw × Nat) => V.need (isI c (putIs c x_1.fst.toNat 0 (c.lenP x_1.fst.toNat) (Bw.mk x_2.fst.n (fun (e : Nat) => x_2.fst.g e) x_2.fst.bad)) x_1.fst.toNat (Int.ofNat 0) (Bw.mk x_2.fst.n (fun (e : Nat) => x_2.fst.g e) x_2.fst.bad) ∧ x_2.fst.n ≤ x_2.snd)
    (V.need (Int.ofNat 0 = Int.ofNat 0)
    (V.need (x_2.fst.n = x_2.fst.n)
    (V.need (x_2.snd = x_2.snd)
    (V.need (x_2.fst.bad = x_2.fst.bad)
    (V.need (x_2.snd = x_2.snd)
    (V.need (x_2.fst.n ≤ x_2.fst.n)
    (V.need (∀ (e : Nat), e < x_2.fst.n → x_2.fst.g e = x_2.fst.g e)
    (V.any (Int × Bw × Nat) (fun (x : Int × Bw × Nat) => isI c (putIs c x_1.fst.toNat 0 (c.lenP x_1.fst.toNat) (Bw.mk x_2.fst.n (fun (e : Nat) => x_2.fst.g e) x_2.fst.bad)) x_1.fst.toNat x.fst x.snd.fst ∧ x.snd.fst.n ≤ x.snd.snd) fun (x_3 : Int × Bw × Nat) => V.br (decide (x_3.fst < (↑(c.lenP (0 + x_1.fst.toNat)) : Int)))
    (V.need (Int.ofNat 0 ≤ x_3.fst ∧ x_3.fst < (↑(c.lenP (0 + x_1.fst.toNat)) : Int))
    (V.need (0 + x_1.fst.toNat < c.nP ∧ 0 + x_3.fst.toNat < c.lenP (0 + x_1.fst.toNat))
    (V.need (0 + x_1.fst.toNat < c.nP ∧ 0 + x_3.fst.toNat < c.lenP (0 + x_1.fst.toNat))
    (V.need (0 + x_1.fst.toNat < c.nP ∧ 0 + x_3.fst.toNat < c.lenP (0 + x_1.fst.toNat))
    (V.need (0 + x_1.fst.toNat < c.nP ∧ 0 + x_3.fst.toNat < c.lenP (0 + x_1.fst.toNat))
    (V.need (0 < 1 ∧ 0 < 1)
    (V.need (0 < 1 ∧ 0 < 1)
    (V.need (0 < 1 ∧ 0 < 1)
    (V.need (0 < 1 ∧ 0 < 1)
    (V.need (0 < 1 ∧ 0 < 1)
    (V.need (0 < 1 ∧ 0 < 1)
    (V.need (0 < 1 ∧ 0 < 1)
    (V.need (0 < 1 ∧ 0 < 1)
    (V.need (0 < 1 ∧ 0 < 1)
    (V.need (0 < 1 ∧ 0 < 1)
    (V.need (0 < 1 ∧ 0 < 1)
    (V.need (c.iO (0 + x_1.fst.toNat) (0 + x_3.fst.toNat) = c.iO (0 + x_1.fst.toNat) (0 + x_3.fst.toNat))
    (V.need (Int.ofNat 3 = Int.ofNat 3)
    (V.need (x_3.snd.fst.n = x_3.snd.fst.n)
    (V.need (x_3.snd.snd = x_3.snd.snd)
    (V.need (x_3.snd.fst.bad = x_3.snd.fst.bad)
    (V.need (x_3.snd.snd = x_3.snd.snd)
    (V.need (x_3.snd.fst.n ≤ x_3.snd.fst.n)
    (V.need (∀ (e : Nat), e < x_3.snd.fst.n → x_3.snd.fst.g e = x_3.snd.fst.g e)
    (V.need (preW (Bw.mk x_3.snd.fst.n (fun (e : Nat) => x_3.snd.fst.g e) x_3.snd.fst.bad) x_3.snd.snd (Int.ofNat 3))
    (V.need (∃ (x : Bw × Nat), x.fst = (Bw.mk x_3.snd.fst.n (fun (e : Nat) => x_3.snd.fst.g e) x_3.snd.fst.bad).put (c.iO (0 + x_1.fst.toNat) (0 + x_3.fst.toNat)) (Int.ofNat 3) ∧ x.fst.n ≤ x.snd)
    (V.any (Bw × Nat) (fun (x : Bw × Nat) => x.fst = (Bw.mk x_3.snd.fst.n (fun (e : Nat) => x_3.snd.fst.g e) x_3.snd.fst.bad).put (c.iO (0 + x_1.fst.toNat) (0 + x_3.fst.toNat)) (Int.ofNat 3) ∧ x.fst.n ≤ x.snd) fun (x : Bw × Nat) => V.br (c.iO (0 + x_1.fst.toNat) (0 + x_3.fst.toNat) == Int.ofNat 0)
    (V.need (IntKind.i64.wrap (c.iA (0 + x_1.fst.toNat) (0 + x_3.fst.toNat) - Int.ofNat 1) = IntKind.i64.wrap (c.iA (0 + x_1.fst.toNat) (0 + x_3.fst.toNat) - Int.ofNat 1))
    (V.need (Int.ofNat 4 = Int.ofNat 4)
    (V.need (x.fst.n = x.fst.n)
    (V.need (x.snd = x.snd)
    (V.need (x.fst.bad = x.fst.bad)
    (V.need (x.snd = x.snd)
    (V.need (x.fst.n ≤ x.fst.n)
    (V.need (∀ (e : Nat), e < x.fst.n → x.fst.g e = x.fst.g e)
    (V.need (preW (Bw.mk x.fst.n (fun (e : Nat) => x.fst.g e) x.fst.bad) x.snd (Int.ofNat 4))
    (V.need (∃ (x_4 : Bw × Nat), x_4.fst = (Bw.mk x.fst.n (fun (e : Nat) => x.fst.g e) x.fst.bad).put (IntKind.i64.wrap (c.iA (0 + x_1.fst.toNat) (0 + x_3.fst.toNat) - Int.ofNat 1)) (Int.ofNat 4) ∧ x_4.fst.n ≤ x_4.snd)
    (V.any (Bw × Nat) (fun (x_4 : Bw × Nat) => x_4.fst = (Bw.mk x.fst.n (fun (e : Nat) => x.fst.g e) x.fst.bad).put (IntKind.i64.wrap (c.iA (0 + x_1.fst.toNat) (0 + x_3.fst.toNat) - Int.ofNat 1)) (Int.ofNat 4) ∧ x_4.fst.n ≤ x_4.snd) fun (x : Bw × Nat) => V.need (isI c (putIs c x_1.fst.toNat 0 (c.lenP x_1.fst.toNat) (Bw.mk x_2.fst.n (fun (e : Nat) => x_2.fst.g e) x_2.fst.bad)) x_1.fst.toNat (IntKind.i64.wrap (x_3.fst + Int.ofNat 1)) (Bw.mk x.fst.n (fun (e : Nat) => x.fst.g e) x.fst.bad) ∧ x.fst.n ≤ x.snd)
    (V.need (c.lenP x_1.fst.toNat - (IntKind.i64.wrap (x_3.fst + Int.ofNat 1)).toNat < c.lenP x_1.fst.toNat - x_3.fst.toNat)
    (V.need (IntKind.i64.wrap (x_3.fst + Int.ofNat 1) = IntKind.i64.wrap (x_3.fst + Int.ofNat 1))
    (V.need (x.fst.n = x.fst.n)
    (V.need (x.snd = x.snd)
    (V.need (x.fst.bad = x.fst.bad)
    (V.need (x.snd = x.snd)
    (V.need (x.fst.n ≤ x.fst.n)
    (V.need (∀ (e : Nat), e < x.fst.n → x.fst.g e = x.fst.g e) V.ok)))))))))))))))))))
    (V.br (c.iO (0 + x_1.fst.toNat) (0 + x_3.fst.toNat) == Int.ofNat 1)
    (V.need (c.iA (0 + x_1.fst.toNat) (0 + x_3.fst.toNat) = c.iA (0 + x_1.fst.toNat) (0 + x_3.fst.toNat))
    (V.need ((↑c.nP : Int) = (↑c.nP : Int))
    (V.need (x.fst.n = x.fst.n)
    (V.need (x.snd = x.snd)
    (V.need (x.fst.bad = x.fst.bad)
    (V.need (x.snd = x.snd)
    (V.need (x.fst.n ≤ x.fst.n)
    (V.need (∀ (e : Nat), e < x.fst.n → x.fst.g e = x.fst.g e)
    (V.need (preW (Bw.mk x.fst.n (fun (e : Nat) => x.fst.g e) x.fst.bad) x.snd (↑c.nP : Int))
    (V.need (∃ (x_4 : Bw × Nat), x_4.fst = (Bw.mk x.fst.n (fun (e : Nat) => x.fst.g e) x.fst.bad).put (c.iA (0 + x_1.fst.toNat) (0 + x_3.fst.toNat)) (↑c.nP : Int) ∧ x_4.fst.n ≤ x_4.snd)
    (V.any (Bw × Nat) (fun (x_4 : Bw × Nat) => x_4.fst = (Bw.mk x.fst.n (fun (e : Nat) => x.fst.g e) x.fst.bad).put (c.iA (0 + x_1.fst.toNat) (0 + x_3.fst.toNat)) (↑c.nP : Int) ∧ x_4.fst.n ≤ x_4.snd) fun (x : Bw × Nat) => V.need (c.iB (0 + x_1.fst.toNat) (0 + x_3.fst.toNat) = c.iB (0 + x_1.fst.toNat) (0 + x_3.fst.toNat))
    (V.need (c.L = c.L)
    (V.need (x.fst.n = x.fst.n)
    (V.need (x.snd = x.snd)
    (V.need (x.fst.bad = x.fst.bad)
    (V.need (x.snd = x.snd)
    (V.need (x.fst.n ≤ x.fst.n)
    (V.need (∀ (e : Nat), e < x.fst.n → x.fst.g e = x.fst.g e)
    (V.need (preW (Bw.mk x.fst.n (fun (e : Nat) => x.fst.g e) x.fst.bad) x.snd c.L)
    (V.need (∃ (x_4 : Bw × Nat), x_4.fst = (Bw.mk x.fst.n (fun (e : Nat) => x.fst.g e) x.fst.bad).put (c.iB (0 + x_1.fst.toNat) (0 + x_3.fst.toNat)) c.L ∧ x_4.fst.n ≤ x_4.snd)
    (V.any (Bw × Nat) (fun (x_4 : Bw × Nat) => x_4.fst = (Bw.mk x.fst.n (fun (e : Nat) => x.fst.g e) x.fst.bad).put (c.iB (0 + x_1.fst.toNat) (0 + x_3.fst.toNat)) c.L ∧ x_4.fst.n ≤ x_4.snd) fun (x : Bw × Nat) => V.need (isI c (putIs c x_1.fst.toNat 0 (c.lenP x_1.fst.toNat) (Bw.mk x_2.fst.n (fun (e : Nat) => x_2.fst.g e) x_2.fst.bad)) x_1.fst.toNat (IntKind.i64.wrap (x_3.fst + Int.ofNat 1)) (Bw.mk x.fst.n (fun (e : Nat) => x.fst.g e) x.fst.bad) ∧ x.fst.n ≤ x.snd)
    (V.need (c.lenP x_1.fst.toNat - (IntKind.i64.wrap (x_3.fst + Int.ofNat 1)).toNat < c.lenP x_1.fst.toNat - x_3.fst.toNat)
    (V.need (IntKind.i64.wrap (x_3.fst + Int.ofNat 1) = IntKind.i64.wrap (x_3.fst + Int.ofNat 1))
    (V.need (x.fst.n = x.fst.n)
    (V.need (x.snd = x.snd)
    (V.need (x.fst.bad = x.fst.bad)
    (V.need (x.snd = x.snd)
    (V.need (x.fst.n ≤ x.fst.n)
    (V.need (∀ (e : Nat), e < x.fst.n → x.fst.g e = x.fst.g e) V.ok)))))))))))))))))))))))))))))
    (V.need (c.iA (0 + x_1.fst.toNat) (0 + x_3.fst.toNat) = c.iA (0 + x_1.fst.toNat) (0 + x_3.fst.toNat))
    (V.need (Int.ofNat 4 = Int.ofNat 4)
    (V.need (x.fst.n = x.fst.n)
    (V.need (x.snd = x.snd)
    (V.need (x.fst.bad = x.fst.bad)
    (V.need (x.snd = x.snd)
    (V.need (x.fst.n ≤ x.fst.n)
    (V.need (∀ (e : Nat), e < x.fst.n → x.fst.g e = x.fst.g e)
    (V.need (preW (Bw.mk x.fst.n (fun (e : Nat) => x.fst.g e) x.fst.bad) x.snd (Int.ofNat 4))
    (V.need (∃ (x_4 : Bw × Nat), x_4.fst = (Bw.mk x.fst.n (fun (e : Nat) => x.fst.g e) x.fst.bad).put (c.iA (0 + x_1.fst.toNat) (0 + x_3.fst.toNat)) (Int.ofNat 4) ∧ x_4.fst.n ≤ x_4.snd)
    (V.any (Bw × Nat) (fun (x_4 : Bw × Nat) => x_4.fst = (Bw.mk x.fst.n (fun (e : Nat) => x.fst.g e) x.fst.bad).put (c.iA (0 + x_1.fst.toNat) (0 + x_3.fst.toNat)) (Int.ofNat 4) ∧ x_4.fst.n ≤ x_4.snd) fun (x : Bw × Nat) => V.need (isI c (putIs c x_1.fst.toNat 0 (c.lenP x_1.fst.toNat) (Bw.mk x_2.fst.n (fun (e : Nat) => x_2.fst.g e) x_2.fst.bad)) x_1.fst.toNat (IntKind.i64.wrap (x_3.fst + Int.ofNat 1)) (Bw.mk x.fst.n (fun (e : Nat) => x.fst.g e) x.fst.bad) ∧ x.fst.n ≤ x.snd)
    (V.need (c.lenP x_1.fst.toNat - (IntKind.i64.wrap (x_3.fst + Int.ofNat 1)).toNat < c.lenP x_1.fst.toNat - x_3.fst.toNat)
    (V.need (IntKind.i64.wrap (x_3.fst + Int.ofNat 1) = IntKind.i64.wrap (x_3.fst + Int.ofNat 1))
    (V.need (x.fst.n = x.fst.n)
    (V.need (x.snd = x.snd)
    (V.need (x.fst.bad = x.fst.bad)
    (V.need (x.snd = x.snd)
    (V.need (x.fst.n ≤ x.fst.n)
    (V.need (∀ (e : Nat), e < x.fst.n → x.fst.g e = x.fst.g e) V.ok)))))))))))))))))))))))))))))))))))))))))))))))
    (V.need (psI c (putPs c 0 c.nP (Bw.mk x.fst.n (fun (e : Nat) => x.fst.g e) x.fst.bad)) (IntKind.i64.wrap (x_1.fst + Int.ofNat 1)) (Bw.mk x_3.snd.fst.n (fun (e : Nat) => x_3.snd.fst.g e) x_3.snd.fst.bad) ∧ x_3.snd.fst.n ≤ x_3.snd.snd)
    (V.need (c.nP - (IntKind.i64.wrap (x_1.fst + Int.ofNat 1)).toNat < c.nP - x_1.fst.toNat)
    (V.need (IntKind.i64.wrap (x_1.fst + Int.ofNat 1) = IntKind.i64.wrap (x_1.fst + Int.ofNat 1))
    (V.need (x_3.snd.fst.n = x_3.snd.fst.n)
    (V.need (x_3.snd.snd = x_3.snd.snd)
    (V.need (x_3.snd.fst.bad = x_3.snd.fst.bad)
    (V.need (x_3.snd.snd = x_3.snd.snd)
    (V.need (x_3.snd.fst.n ≤ x_3.snd.fst.n)
    (V.need (∀ (e : Nat), e < x_3.snd.fst.n → x_3.snd.fst.g e = x_3.snd.fst.g e) V.ok)))))))))))))))))))))))))))))))
    (V.need ((↑c.nU : Int) = (↑c.nU : Int))
    (V.need (Int.ofNat 6 = Int.ofNat 6)
    (V.need (x_1.snd.fst.n = x_1.snd.fst.n)
    (V.need (x_1.snd.snd = x_1.snd.snd)
    (V.need (x_1.snd.fst.bad = x_1.snd.fst.bad)
    (V.need (x_1.snd.snd = x_1.snd.snd)
    (V.need (x_1.snd.fst.n ≤ x_1.snd.fst.n)
    (V.need (∀ (e : Nat), e < x_1.snd.fst.n → x_1.snd.fst.g e = x_1.snd.fst.g e)
    (V.need (preW (Bw.mk x_1.snd.fst.n (fun (e : Nat) => x_1.snd.fst.g e) x_1.snd.fst.bad) x_1.snd.snd (Int.ofNat 6))
    (V.need (∃ (x : Bw × Nat), x.fst = (Bw.mk x_1.snd.fst.n (fun (e : Nat) => x_1.snd.fst.g e) x_1.snd.fst.bad).put (↑c.nU : Int) (Int.ofNat 6) ∧ x.fst.n ≤ x.snd)
    (V.any (Bw × Nat) (fun (x : Bw × Nat) => x.fst = (Bw.mk x_1.snd.fst.n (fun (e : Nat) => x_1.snd.fst.g e) x_1.snd.fst.bad).put (↑c.nU : Int) (Int.ofNat 6) ∧ x.fst.n ≤ x.snd) fun (x : Bw × Nat) => V.need (usI c (putUs c 0 c.nU (Bw.mk x.fst.n (fun (e : Nat) => x.fst.g e) x.fst.bad)) (Int.ofNat 0) (Bw.mk x.fst.n (fun (e : Nat) => x.fst.g e) x.fst.bad) ∧ x.fst.n ≤ x.snd)
    (V.need (Int.ofNat 0 = Int.ofNat 0)
    (V.need (x.fst.n = x.fst.n)
    (V.need (x.snd = x.snd)
    (V.need (x.fst.bad = x.fst.bad)
    (V.need (x.snd = x.snd)
    (V.need (x.fst.n ≤ x.fst.n)
    (V.need (∀ (e : Nat), e < x.fst.n → x.fst.g e = x.fst.g e)
    (V.any (Int × Bw × Nat) (fun (x_2 : Int × Bw × Nat) => usI c (putUs c 0 c.nU (Bw.mk x.fst.n (fun (e : Nat) => x.fst.g e) x.fst.bad)) x_2.fst x_2.snd.fst ∧ x_2.snd.fst.n ≤ x_2.snd.snd) fun (x_2 : Int × Bw × Nat) => V.br (decide (x_2.fst < (↑c.nU : Int)))
    (V.need (Int.ofNat 0 ≤ x_2.fst ∧ x_2.fst < (↑c.nU : Int))
    (V.need (0 < 1 ∧ 0 + x_2.fst.toNat < c.nU)
    (V.need (0 < 1 ∧ 0 + x_2.fst.toNat < c.nU)
    (V.need (0 < 1 ∧ 0 + x_2.fst.toNat < c.nU)
    (V.need (0 < 1 ∧ 0 + x_2.fst.toNat < c.nU)
    (V.need (0 < 1 ∧ 0 < 1)
    (V.need (0 < 1 ∧ 0 < 1)
    (V.need (c.uP (0 + x_2.fst.toNat) = c.uP (0 + x_2.fst.toNat))
    (V.need ((↑c.nP : Int) = (↑c.nP : Int))
    (V.need (x_2.snd.fst.n = x_2.snd.fst.n)
    (V.need (x_2.snd.snd = x_2.snd.snd)
    (V.need (x_2.snd.fst.bad = x_2.snd.fst.bad)
    (V.need (x_2.snd.snd = x_2.snd.snd)
    (V.need (x_2.snd.fst.n ≤ x_2.snd.fst.n)
    (V.need (∀ (e : Nat), e < x_2.snd.fst.n → x_2.snd.fst.g e = x_2.snd.fst.g e)
    (V.need (preW (Bw.mk x_2.snd.fst.n (fun (e : Nat) => x_2.snd.fst.g e) x_2.snd.fst.bad) x_2.snd.snd (↑c.nP : Int))
    (V.need (∃ (x : Bw × Nat), x.fst = (Bw.mk x_2.snd.fst.n (fun (e : Nat) => x_2.snd.fst.g e) x_2.snd.fst.bad).put (c.uP (0 + x_2.fst.toNat)) (↑c.nP : Int) ∧ x.fst.n ≤ x.snd)
    (V.any (Bw × Nat) (fun (x : Bw × Nat) => x.fst = (Bw.mk x_2.snd.fst.n (fun (e : Nat) => x_2.snd.fst.g e) x_2.snd.fst.bad).put (c.uP (0 + x_2.fst.toNat)) (↑c.nP : Int) ∧ x.fst.n ≤ x.snd) fun (x_3 : Bw × Nat) => V.need (0 < 1 ∧ 0 < 1)
    (V.need (0 < 1 ∧ 0 < 1)
    (V.need (c.uL (0 + x_2.fst.toNat) = c.uL (0 + x_2.fst.toNat))
    (V.need (c.L = c.L)
    (V.need (x_3.fst.n = x_3.fst.n)
    (V.need (x_3.snd = x_3.snd)
    (V.need (x_3.fst.bad = x_3.fst.bad)
    (V.need (x_3.snd = x_3.snd)
    (V.need (x_3.fst.n ≤ x_3.fst.n)
    (V.need (∀ (e : Nat), e < x_3.fst.n → x_3.fst.g e = x_3.fst.g e)
    (V.need (preW (Bw.mk x_3.fst.n (fun (e : Nat) => x_3.fst.g e) x_3.fst.bad) x_3.snd c.L)
    (V.need (∃ (x : Bw × Nat), x.fst = (Bw.mk x_3.fst.n (fun (e : Nat) => x_3.fst.g e) x_3.fst.bad).put (c.uL (0 + x_2.fst.toNat)) c.L ∧ x.fst.n ≤ x.snd)
    (V.any (Bw × Nat) (fun (x : Bw × Nat) => x.fst = (Bw.mk x_3.fst.n (fun (e : Nat) => x_3.fst.g e) x_3.fst.bad).put (c.uL (0 + x_2.fst.toNat)) c.L ∧ x.fst.n ≤ x.snd) fun (x_4 : Bw × Nat) => V.need (c.uD (0 + x_2.fst.toNat) = c.uD (0 + x_2.fst.toNat))
    (V.need (Int.ofNat 16 = Int.ofNat 16)
    (V.need (x_4.fst.n = x_4.fst.n)
    (V.need (x_4.snd = x_4.snd)
    (V.need (x_4.fst.bad = x_4.fst.bad)
    (V.need (x_4.snd = x_4.snd)
    (V.need (x_4.fst.n ≤ x_4.fst.n)
    (V.need (∀ (e : Nat), e < x_4.fst.n → x_4.fst.g e = x_4.fst.g e)
    (V.need (preW (Bw.mk x_4.fst.n (fun (e : Nat) => x_4.fst.g e) x_4.fst.bad) x_4.snd (Int.ofNat 16))
    (V.need (∃ (x : Bw × Nat), x.fst = (Bw.mk x_4.fst.n (fun (e : Nat) => x_4.fst.g e) x_4.fst.bad).put (c.uD (0 + x_2.fst.toNat)) (Int.ofNat 16) ∧ x.fst.n ≤ x.snd)
    (V.any (Bw × Nat) (fun (x : Bw × Nat) => x.fst = (Bw.mk x_4.fst.n (fun (e : Nat) => x_4.fst.g e) x_4.fst.bad).put (c.uD (0 + x_2.fst.toNat)) (Int.ofNat 16) ∧ x.fst.n ≤ x.snd) fun (x_5 : Bw × Nat) => V.need (usI c (putUs c 0 c.nU (Bw.mk x.fst.n (fun (e : Nat) => x.fst.g e) x.fst.bad)) (IntKind.i64.wrap (x_2.fst + Int.ofNat 1)) (Bw.mk x_5.fst.n (fun (e : Nat) => x_5.fst.g e) x_5.fst.bad) ∧ x_5.fst.n ≤ x_5.snd)
    (V.need (c.nU - (IntKind.i64.wrap (x_2.fst + Int.ofNat 1)).toNat < c.nU - x_2.fst.toNat)
    (V.need (IntKind.i64.wrap (x_2.fst + Int.ofNat 1) = IntKind.i64.wrap (x_2.fst + Int.ofNat 1))
    (V.need (x_5.fst.n = x_5.fst.n)
    (V.need (x_5.snd = x_5.snd)
    (V.need (x_5.fst.bad = x_5.fst.bad)
    (V.need (x_5.snd = x_5.snd)
    (V.need (x_5.fst.n ≤ x_5.fst.n)
    (V.need (∀ (e : Nat), e < x_5.fst.n → x_5.fst.g e = x_5.fst.g e) V.ok))))))))))))))))))))))))))))))))))))))))))))))))
    (V.br x_2.snd.fst.bad
    (V.need (goodB c = false)
    (V.need True
    (V.need (Int.ofNat 1 = errB c) V.ok)))
    (V.need (x_2.snd.fst.n ≤ x_2.snd.fst.n ∧ trim (fun (e : Nat) => x_2.snd.fst.g e) x_2.snd.fst.n = trim (fun (e : Nat) => x_2.snd.fst.g e) x_2.snd.fst.n)
    (V.need (x_2.snd.fst.n = x_2.snd.fst.n)
    (V.need (x_2.snd.snd = x_2.snd.snd)
    (V.need (x_2.snd.fst.bad = x_2.snd.fst.bad)
    (V.any Nat (fun (n : Nat) => n ≤ x_2.snd.fst.n ∧ trim (fun (e : Nat) => x_2.snd.fst.g e) n = trim (fun (e : Nat) => x_2.snd.fst.g e) x_2.snd.fst.n) fun (x : Nat) => V.need (0 < 1 ∧ 0 < 1)
    (V.need (0 < 1 ∧ 0 < 1)
    (V.need (0 < 1 ∧ 0 < 1)
    (V.br (decide ((↑x : Int) > Int.ofNat 0))
    (V.need (0 < 1 ∧ 0 < 1)
    (V.need (0 < 1 ∧ 0 < 1)
    (V.need (0 < 1 ∧ 0 < 1)
    (V.need (0 < 1 ∧ 0 < 1)
    (V.need (0 < 1 ∧ 0 < 1)
    (V.need (0 < 1 ∧ 0 < 1)
    (V.need (Int.ofNat 0 ≤ IntKind.i64.wrap ((↑x : Int) - Int.ofNat 1) ∧ IntKind.i64.wrap ((↑x : Int) - Int.ofNat 1) < (↑x : Int))
    (V.need (0 < 1 ∧ 0 + (IntKind.i64.wrap ((↑x : Int) - Int.ofNat 1)).toNat < x_2.snd.fst.n)
    (V.need (0 < 1 ∧ 0 + (IntKind.i64.wrap ((↑x : Int) - Int.ofNat 1)).toNat < x_2.snd.fst.n)
    (V.br (x_2.snd.fst.g (0 + (IntKind.i64.wrap ((↑x : Int) - Int.ofNat 1)).toNat) == Int.ofNat 0)
    (V.need (0 < 1 ∧ 0 < 1)
    (V.need (0 < 1 ∧ 0 < 1)
    (V.need (0 < 1 ∧ 0 < 1)
    (V.need (0 < 1 ∧ 0 < 1)
    (V.need (0 < 1 ∧ 0 < 1)
    (V.need (0 < 1 ∧ 0 < 1)
    (V.need (Int.ofNat 0 ≤ Int.ofNat 0 ∧ Int.ofNat 0 ≤ IntKind.i64.wrap ((↑x : Int) - Int.ofNat 1) ∧ IntKind.i64.wrap ((↑x : Int) - Int.ofNat 1) ≤ (↑x_2.snd.snd : Int))
    (V.need (0 < 1 ∧ 0 < 1)
    (V.need (0 < 1 ∧ 0 < 1)
    (V.need ((IntKind.i64.wrap ((↑x : Int) - Int.ofNat 1)).toNat ≤ x_2.snd.fst.n ∧ trim (fun (e : Nat) => x_2.snd.fst.g e) (IntKind.i64.wrap ((↑x : Int) - Int.ofNat 1)).toNat = trim (fun (e : Nat) => x_2.snd.fst.g e) x_2.snd.fst.n)
    (V.need ((IntKind.i64.wrap ((↑x : Int) - Int.ofNat 1)).toNat < x)
    (V.need ((IntKind.i64.wrap ((↑x : Int) - Int.ofNat 1)).toNat = (IntKind.i64.wrap ((↑x : Int) - Int.ofNat 1)).toNat)
    (V.need (x_2.snd.snd = x_2.snd.snd)
    (V.need (x_2.snd.fst.bad = x_2.snd.fst.bad) V.ok))))))))))))))
    (V.need (goodB c = true)
    (V.need (lenE c ≤ x_2.snd.snd)
    (V.need (x = lenE c)
    (V.need (x_2.snd.snd = x_2.snd.snd)
    (V.need (Int.ofNat 0 = Int.ofNat 0)
    (V.need (x_2.snd.snd = x_2.snd.snd)
    (V.need (lenE c ≤ x_2.snd.fst.n)
    (V.need (∀ (e : Nat), e < lenE c → x_2.snd.fst.g e = (encB c).g e) V.ok))))))))))))))))))
    (V.need (goodB c = true)
    (V.need (lenE c ≤ x_2.snd.snd)
    (V.need (x = lenE c)
    (V.need (x_2.snd.snd = x_2.snd.snd)
    (V.need (Int.ofNat 0 = Int.ofNat 0)
    (V.need (x_2.snd.snd = x_2.snd.snd)
    (V.need (lenE c ≤ x_2.snd.fst.n)
    (V.need (∀ (e : Nat), e < lenE c → x_2.snd.fst.g e = (encB c).g e) V.ok)))))))))))))))))))))))))))))))))))))))))))))))))))))))))))))))))))))))))))))))))))))))))))))))))))))))))))))))))))))))))))))))))))))))))))))))))))))))))))))))))))))))))))))) := by kernel_rfl


end Go.Proofs.Ytjpnpaboahbncaa.Vc

/- Encode, of the program and of the reference: the contracts. -/
set_option linter.unusedVariables false
set_option linter.unusedSimpArgs false
set_option maxRecDepth 100000
namespace Go.Proofs.Ytjpnpaboahbncaa.Vc
open Go Go.RowKit Sx Cn Dc Ck
theorem pE_ok {c : Cf} : ∀ (k i : Nat), pE c i k = 0 → ∀ j, i ≤ j → j < i + k → c.lenP j ≤ 32 ∧ ∀ e, e < c.lenP j → okI c j e
  | 0, i, _, j, h1, h2 => by omega
  | k + 1, i, h, j, h1, h2 => by
    rw [pE] at h
    split at h
    · cases h
    · rename_i hl
      split at h
      · cases h
      · rename_i hb
        rcases Nat.lt_or_eq_of_le h1 with h3 | h3
        · exact pE_ok k (i + 1) h j h3 (by omega)
        · subst h3
          exact ⟨by omega, fun e he => Classical.byContradiction fun hn => hb ⟨e, he, hn⟩⟩
theorem uE_ok {c : Cf} : ∀ (k i : Nat), uE c i k = 0 → ∀ j, i ≤ j → j < i + k → (0 ≤ c.uP j ∧ c.uP j ≤ (c.nP : Int) - 1) ∧ (0 ≤ c.uL j ∧ c.uL j ≤ c.L - 1) ∧ (0 ≤ c.uD j ∧ c.uD j ≤ 16777215)
  | 0, i, _, j, h1, h2 => by omega
  | k + 1, i, h, j, h1, h2 => by
    rw [uE] at h
    split at h
    · cases h
    · rename_i hl
      split at h
      · cases h
      · rename_i hb
        rcases Nat.lt_or_eq_of_le h1 with h3 | h3
        · exact uE_ok k (i + 1) h j h3 (by omega)
        · subst h3
          exact ⟨by omega, by omega, by omega⟩
theorem err_ok {c : Cf} (h : errE c = 0) : okC c := by
  unfold errE at h
  split at h
  · cases h
  · rename_i hN
    have hN : okN c := Classical.byContradiction hN
    split at h
    · exact absurd h ‹_›
    · rename_i hp
      have hp : progE c = 0 := Classical.byContradiction hp
      have hb := prog_zero hp
      rw [prog_rest hb] at hp
      unfold subE at h
      split at h
      · cases h
      · rename_i hU
        exact ⟨hN, ⟨⟨by omega, by omega⟩, fun i hi => pE_ok _ _ hp i (Nat.zero_le _) (by omega)⟩, by omega, fun e he => uE_ok _ _ h e (Nat.zero_le _) (by omega)⟩
theorem ok_errP {c : Cf} (h : okP c) : ∀ (k i : Nat), i + k ≤ c.nP → pE c i k = 0
  | 0, i, _ => rfl
  | k + 1, i, hi => by
    rw [pE, if_neg (by have := (h.2 i (by omega)).1; omega), if_neg (by rintro ⟨e, h1, h2⟩; exact h2 ((h.2 i (by omega)).2 e h1))]
    exact ok_errP h k (i + 1) (by omega)
theorem ok_errU {c : Cf} (h : okU c) : ∀ (k i : Nat), i + k ≤ c.nU → uE c i k = 0
  | 0, i, _ => rfl
  | k + 1, i, hi => by
    have := h.2 i (by omega)
    rw [uE, if_neg (by omega), if_neg (by omega)]
    exact ok_errU h k (i + 1) (by omega)
theorem ok_err {c : Cf} (h : okC c) : errE c = 0 := by
  have e1 : progE c = 0 := by
    have := h.2.1.1
    rw [prog_rest (by omega)]
    exact ok_errP h.2.1 _ _ (by omega)
  have e2 : subE c = 0 := by
    unfold subE
    rw [if_neg (by have := h.2.2.1; omega)]
    exact ok_errU h.2.2 _ _ (by omega)
  unfold errE
  rw [if_neg (fun g => g h.1), if_neg (fun g => g e1), e2]
/-! ### Writing -/
theorem put_le (s : Bw) (v k : Int) : (s.put v k).n ≤ s.n + 1 := by
  show putN s.n v k ≤ s.n + 1
  unfold putN; split <;> omega
theorem put_more {s : Bw} {v k : Int} {x : Bw × Nat} : (x.1 = s.put v k ∧ x.1.n ≤ x.2) ↔ (x.1 = s.put v k ∧ x.1.n ≤ s.n + 1 ∧ x.1.n ≤ x.2) := by
  constructor
  · rintro ⟨h1, h2⟩; exact ⟨h1, by rw [h1]; exact put_le s v k, h2⟩
  · rintro ⟨h1, _, h2⟩; exact ⟨h1, h2⟩
theorem put_ex (s : Bw) : (∃ x : Bw × Nat, x.1 = s ∧ x.1.n ≤ x.2) ↔ True := ⟨fun _ => trivial, fun _ => ⟨(s, s.n), rfl, Nat.le_refl _⟩⟩
theorem bw_eta (s : Bw) : (⟨s.n, fun e => s.g e, s.bad⟩ : Bw) = s := rfl
theorem instr_le (c : Cf) (s : Bw) (o a b : Int) : (s.instr c o a b).n ≤ s.n + 3 := by
  unfold Bw.instr
  split
  · have := put_le (s.put o 3) (IntKind.i64.wrap (a - 1)) 4; have := put_le s o 3; omega
  · split
    · have := put_le ((s.put o 3).put a c.nP) b c.L; have := put_le (s.put o 3) a c.nP; have := put_le s o 3; omega
    · have := put_le (s.put o 3) a 4; have := put_le s o 3; omega
theorem bw_nil : (⟨0, fun _ => 0, false⟩ : Bw) = Bw.nil := rfl
theorem nil_n : Bw.nil.n = 0 := rfl
section
variable {c : Cf} {T s s' : Bw} {i k : Int}
theorem psE_0 : psE c (putPs c 0 c.nP s) 0 s := rfl
theorem isE_0 {j : Nat} : isE c (putIs c j 0 (c.lenP j) s) j 0 s := rfl
theorem usE_0 : usE c (putUs c 0 c.nU s) 0 s := rfl
theorem isE_next {j : Nat} (h : isE c T j k s) (h0 : 0 ≤ k) (hk : k < c.lenP j) (hl : c.lenP j ≤ 32) (hs : s' = s.instr c (c.iO j k.toNat) (c.iA j k.toNat) (c.iB j k.toNat)) : isE c T j (IntKind.i64.wrap (k + 1)) s' := by
  subst hs
  rw [w64 (by omega)]
  unfold isE at *
  rw [← h, show c.lenP j - k.toNat = c.lenP j - (k + 1).toNat + 1 by omega, putIs, show k.toNat + 1 = (k + 1).toNat by omega]
theorem isE_next0 {j : Nat} {x4 x5 : Bw × Nat} {a p q r : Prop} (h : (a ∧ isE c T j k s) ∧ r) (hk : k < c.lenP j) (e1 : x4.1 = s.put (c.iO j k.toNat) 3 ∧ p) (ho : c.iO j k.toNat = 0) (e2 : x5.1 = x4.1.put (IntKind.i64.wrap (c.iA j k.toNat - 1)) 4 ∧ q) (h0 : 0 ≤ k) (hl : c.lenP j ≤ 32) : isE c T j (IntKind.i64.wrap (k + 1)) x5.1 :=
  isE_next h.1.2 h0 hk hl (by rw [e2.1, e1.1, Bw.instr, if_pos ho])
theorem isE_next1 {j : Nat} {x4 x5 x6 : Bw × Nat} {a p q r r' : Prop} (h : (a ∧ isE c T j k s) ∧ r') (hk : k < c.lenP j) (e1 : x4.1 = s.put (c.iO j k.toNat) 3 ∧ p) (ho : c.iO j k.toNat = 1) (e2 : x5.1 = x4.1.put (c.iA j k.toNat) c.nP ∧ q) (e3 : x6.1 = x5.1.put (c.iB j k.toNat) c.L ∧ r) (h0 : 0 ≤ k) (hl : c.lenP j ≤ 32) : isE c T j (IntKind.i64.wrap (k + 1)) x6.1 :=
  isE_next h.1.2 h0 hk hl (by rw [e3.1, e2.1, e1.1, Bw.instr, if_neg (by omega), if_pos ho])
theorem isE_next2 {j : Nat} {x4 x5 : Bw × Nat} {a p q r : Prop} (h : (a ∧ isE c T j k s) ∧ r) (hk : k < c.lenP j) (e1 : x4.1 = s.put (c.iO j k.toNat) 3 ∧ p) (ho : ¬ c.iO j k.toNat = 0) (ho' : ¬ c.iO j k.toNat = 1) (e2 : x5.1 = x4.1.put (c.iA j k.toNat) 4 ∧ q) (h0 : 0 ≤ k) (hl : c.lenP j ≤ 32) : isE c T j (IntKind.i64.wrap (k + 1)) x5.1 :=
  isE_next h.1.2 h0 hk hl (by rw [e2.1, e1.1, Bw.instr, if_neg ho, if_neg ho'])
theorem psE_next {x2 : Bw × Nat} {a b p r r' : Prop} (h : (a ∧ psE c T i s) ∧ r) (hi : i < c.nP) (e1 : x2.1 = s.put (c.lenP i.toNat) 6 ∧ p) (h2 : (b ∧ isE c (putIs c i.toNat 0 (c.lenP i.toNat) x2.1) i.toNat k s') ∧ r') (hk : ¬ k < c.lenP i.toNat) (h0 : 0 ≤ i) (hP : c.nP ≤ 32) : psE c T (IntKind.i64.wrap (i + 1)) s' := by
  have g := h2.1.2
  have h := h.1.2
  unfold psE isE at *
  rw [w64 (by omega)]
  rw [show c.lenP i.toNat - k.toNat = 0 by omega, putIs] at g
  rw [← h, show c.nP - i.toNat = c.nP - (i + 1).toNat + 1 by omega, putPs, show i.toNat + 1 = (i + 1).toNat by omega, ← e1.1, ← g]
theorem usE_next {x1 x2 x3 : Bw × Nat} {a p q r r' : Prop} (h : (a ∧ usE c T i s) ∧ r') (hi : i < c.nU) (e1 : x1.1 = s.put (c.uP i.toNat) c.nP ∧ p) (e2 : x2.1 = x1.1.put (c.uL i.toNat) c.L ∧ q) (e3 : x3.1 = x2.1.put (c.uD i.toNat) 16 ∧ r) (h0 : 0 ≤ i) (hU : c.nU ≤ 64) : usE c T (IntKind.i64.wrap (i + 1)) x3.1 := by
  have h := h.1.2
  unfold usE at *
  rw [w64 (by omega), e3.1, e2.1, e1.1]
  rw [← h, show c.nU - i.toNat = c.nU - (i + 1).toNat + 1 by omega, putUs, show i.toNat + 1 = (i + 1).toNat by omega]
end
theorem put_bad {s : Bw} {v k : Int} (h : s.bad = true) : (s.put v k).bad = true := by
  show putB s.bad v k = true
  unfold putB; rw [h]; rfl
theorem instr_bad {c : Cf} {s : Bw} {o a b : Int} (h : s.bad = true) : (s.instr c o a b).bad = true := by
  unfold Bw.instr
  split
  · exact put_bad (put_bad h)
  · split
    · exact put_bad (put_bad (put_bad h))
    · exact put_bad (put_bad h)
theorem putIs_bad {c : Cf} {i : Nat} : ∀ (m k : Nat) {s : Bw}, s.bad = true → (putIs c i k m s).bad = true
  | 0, k, s, h => h
  | m + 1, k, s, h => putIs_bad m (k + 1) (instr_bad h)
theorem putPs_bad {c : Cf} : ∀ (m i : Nat) {s : Bw}, s.bad = true → (putPs c i m s).bad = true
  | 0, i, s, h => h
  | m + 1, i, s, h => putPs_bad m (i + 1) (putIs_bad _ _ (put_bad h))
theorem putUs_bad {c : Cf} : ∀ (m i : Nat) {s : Bw}, s.bad = true → (putUs c i m s).bad = true
  | 0, i, s, h => h
  | m + 1, i, s, h => putUs_bad m (i + 1) (put_bad (put_bad (put_bad h)))
section
variable {c : Cf} {x1 x2 x3 x4 x5 x6 x7 x8 x9 x10 y : Bw × Nat} {p1 p2 p3 p4 p5 p6 p7 p8 p9 p10 a b p r r' : Prop} {i k : Int} {s s' : Bw}
theorem head_link (e1 : x1.1 = Bw.nil.put (IntKind.i64.wrap (c.W - 1)) 4 ∧ p1) (e2 : x2.1 = x1.1.put (IntKind.i64.wrap (c.L - 1)) 4 ∧ p2) (e3 : x3.1 = x2.1.put (IntKind.i64.wrap (c.C - 1)) (min 3 c.L) ∧ p3) (e4 : x4.1 = x3.1.put (IntKind.i64.wrap (c.T - 1)) 12 ∧ p4)
    (e5 : x5.1 = x4.1.put (IntKind.i64.wrap (c.D - 1)) 4 ∧ p5) (e6 : x6.1 = x5.1.put (IntKind.i64.wrap (c.H - 1)) 4 ∧ p6) (e7 : x7.1 = x6.1.put (IntKind.i64.wrap (c.B - 1)) c.D ∧ p7) (e8 : x8.1 = x7.1.put c.A 6 ∧ p8) (e9 : x9.1 = x8.1.put (IntKind.i64.wrap (c.P - 1)) 8 ∧ p9)
    (e10 : x10.1 = x9.1.put (IntKind.i64.wrap ((c.nP : Int) - 1)) 4 ∧ p10) : headB c = x10.1 := by
  rw [headB, e10.1, e9.1, e8.1, e7.1, e6.1, e5.1, e4.1, e3.1, e2.1, e1.1]
theorem link_n (hh : headB c = x10.1) (h : (a ∧ psE c (putPs c 0 c.nP x10.1) i s) ∧ r) (hi : ¬ i < c.nP) (e : y.1 = s.put c.nU 6 ∧ p) (u : (b ∧ usE c (putUs c 0 c.nU y.1) k s') ∧ r') (hk : ¬ k < c.nU) : encB c = s' := by
  have h := h.1.2
  have u := u.1.2
  unfold psE at h
  unfold usE at u
  rw [show c.nP - i.toNat = 0 by omega, putPs] at h
  rw [show c.nU - k.toNat = 0 by omega, putUs] at u
  rw [encB, hh, ← h, ← e.1, ← u]
theorem link_b (hh : headB c = x10.1) (h : (a ∧ psE c (putPs c 0 c.nP x10.1) i s) ∧ r) (hb : s.bad = true) (e : y.1 = s.put c.nU 6 ∧ p) (u : (b ∧ usE c (putUs c 0 c.nU y.1) k s') ∧ r') (hk : ¬ k < c.nU) : (encB c).bad = true ∧ s'.bad = true := by
  have h := h.1.2
  have u := u.1.2
  unfold psE at h
  unfold usE at u
  rw [show c.nU - k.toNat = 0 by omega, putUs] at u
  constructor
  · rw [encB, hh, ← h]
    exact putUs_bad _ _ (put_bad (putPs_bad _ _ hb))
  · rw [u, e.1]
    exact putUs_bad _ _ (put_bad hb)
end
theorem trim_le (g : Nat → Int) : ∀ n, trim g n ≤ n
  | 0 => Nat.le_refl _
  | n + 1 => by
    rw [trim]; split
    · have := trim_le g n; omega
    · exact Nat.le_refl _
theorem trim_next {g : Nat → Int} {n N : Nat} (h : n ≤ N ∧ trim (fun e => g e) n = trim (fun e => g e) N) (hg : g (IntKind.i64.wrap ((n : Int) - 1)).toNat = 0) (h0 : (0 : Int) < n) (hb : n ≤ 100000) : trim (fun e => g e) (IntKind.i64.wrap ((n : Int) - 1)).toNat = trim (fun e => g e) N := by
  rw [w64 (by omega)] at hg ⊢
  rw [← h.2]
  obtain ⟨m, rfl⟩ : ∃ m, n = m + 1 := ⟨n - 1, by omega⟩
  rw [show (((m + 1 : Nat) : Int) - 1).toNat = m by omega] at hg ⊢
  rw [show trim (fun e => g e) (m + 1) = if g m = 0 then trim (fun e => g e) m else m + 1 from rfl, if_pos hg]
theorem len_z {c : Cf} {s' : Bw} {n : Nat} (hL : encB c = s') (h : n ≤ s'.n ∧ trim (fun e => s'.g e) n = trim (fun e => s'.g e) s'.n) (h0 : ¬ (0 : Int) < n) : n = lenE c := by
  unfold lenE
  rw [hL]
  have e : n = 0 := by omega
  subst e
  exact h.2
theorem len_e {c : Cf} {s' : Bw} {n : Nat} (hL : encB c = s') (h : n ≤ s'.n ∧ trim (fun e => s'.g e) n = trim (fun e => s'.g e) s'.n) (hg : ¬ s'.g (IntKind.i64.wrap ((n : Int) - 1)).toNat = 0) (h0 : (0 : Int) < n) (hb : n ≤ 100000) : n = lenE c := by
  unfold lenE
  rw [hL]
  rw [w64 (by omega)] at hg
  obtain ⟨m, rfl⟩ : ∃ m, n = m + 1 := ⟨n - 1, by omega⟩
  rw [show (((m + 1 : Nat) : Int) - 1).toNat = m by omega] at hg
  have h2 := h.2
  rw [show trim (fun e => s'.g e) (m + 1) = if s'.g m = 0 then trim (fun e => s'.g e) m else m + 1 from rfl, if_neg hg] at h2
  exact h2
theorem good_f {c : Cf} (h : (encB c).bad = true) : goodB c = false := by unfold goodB; rw [h]; simp
theorem good_t {c : Cf} (h : errE c = 0) (hb : (encB c).bad = false) : goodB c = true := by unfold goodB; rw [h, hb]; simp
theorem good_e {c : Cf} (h : ¬ errE c = 0) : goodB c = false := by unfold goodB; simp [h]
set_option maxHeartbeats 4000000 in
theorem vhEncR (c : Cf) : VHolds (verEncR c) := by
  constructor
  rw [verEncR_eq]
  simp only [V.holds, Int.ofNat_eq_natCast, decide_eq_true_eq, decide_eq_false_iff_not, Bool.not_eq_true', Bool.not_eq_false', bne_iff_ne, bne_eq_false_iff_eq, beq_iff_eq, beq_eq_false_iff_ne, ne_eq, true_and, and_true, forall_const, true_implies, implies_true, Nat.zero_add, Nat.sub_zero, Nat.lt_add_one, Nat.zero_lt_one, Int.natCast_zero, Int.natCast_one, Int.cast_ofNat_Int, gt_iff_lt, and_self, eq_self, Nat.le_refl, cf_eta, bw_eta, put_ex, bw_nil]
  simp only [put_more, psI, isI, usI, nil_n]
  refine ⟨fun he => ⟨good_e he, by unfold errB; rw [if_neg he]⟩, fun he => ?_⟩
  obtain ⟨hN, ⟨⟨hP1, hP2⟩, hPl⟩, hU1, hU2⟩ := err_ok he
  have hl : ∀ i, i < c.nP → c.lenP i ≤ 32 := fun i hi => (hPl i hi).1
  obtain ⟨n1, n2, n3, n4, n5, n6, n7, n8, n9⟩ := hN
  repeat' first | exact True.intro | with_reducible apply And.intro | intro _
  all_goals try omega
  all_goals try (unfold preW; (try rw [nil_n]); omega)
  all_goals try (first | exact psE_0 | exact isE_0 | exact usE_0 | exact hl _ (by omega))
  all_goals try (rw [w64 (by omega)]; omega)
  all_goals try (first
    | exact isE_next0 (by assumption) (by assumption) (by assumption) (by assumption) (by assumption) (by omega) (by omega)
    | exact isE_next1 (by assumption) (by assumption) (by assumption) (by assumption) (by assumption) (by assumption) (by omega) (by omega)
    | exact isE_next2 (by assumption) (by assumption) (by assumption) (by assumption) (by assumption) (by assumption) (by omega) (by omega)
    | exact psE_next (by assumption) (by assumption) (by assumption) (by assumption) (by assumption) (by omega) (by omega)
    | exact usE_next (by assumption) (by assumption) (by assumption) (by assumption) (by assumption) (by omega) (by omega)
    | exact trim_next (by assumption) (by assumption) (by assumption) (by omega)
    | (unfold errB; rw [if_pos he]))
  all_goals have hh := head_link (c := c) (by assumption) (by assumption) (by assumption) (by assumption) (by assumption) (by assumption) (by assumption) (by assumption) (by assumption) (by assumption)
  all_goals first
    | (have L := link_n hh (by assumption) (by assumption) (by assumption) (by assumption) (by assumption)
       first
        | exact good_f (by rw [L]; assumption)
        | exact good_t he (by rw [L]; assumption)
        | exact len_z L (by assumption) (by assumption)
        | exact len_e L (by assumption) (by assumption) (by assumption) (by omega)
        | (rw [L])
        | (unfold lenE; rw [L]; exact Nat.le_trans (trim_le _ _) (by omega)))
    | (have L := link_b hh (by assumption) (by assumption) (by assumption) (by assumption) (by assumption)
       first
        | exact good_f L.1
        | (have := L.2; simp_all; done))
set_option maxHeartbeats 4000000 in
theorem vhEncP (c : Cf) : VHolds (verEncP c) := by
  constructor
  rw [verEncP_eq]
  simp only [V.holds, Int.ofNat_eq_natCast, decide_eq_true_eq, decide_eq_false_iff_not, Bool.not_eq_true', Bool.not_eq_false', bne_iff_ne, bne_eq_false_iff_eq, beq_iff_eq, beq_eq_false_iff_ne, ne_eq, true_and, and_true, forall_const, true_implies, implies_true, Nat.zero_add, Nat.sub_zero, Nat.lt_add_one, Nat.zero_lt_one, Int.natCast_zero, Int.natCast_one, Int.cast_ofNat_Int, gt_iff_lt, and_self, eq_self, Nat.le_refl, cf_eta, bw_eta, put_ex, bw_nil]
  simp only [put_more, psI, isI, usI, nil_n]
  refine ⟨fun he => ⟨good_e he, by unfold errB; rw [if_neg he]⟩, fun he => ?_⟩
  obtain ⟨hN, ⟨⟨hP1, hP2⟩, hPl⟩, hU1, hU2⟩ := err_ok he
  have hl : ∀ i, i < c.nP → c.lenP i ≤ 32 := fun i hi => (hPl i hi).1
  obtain ⟨n1, n2, n3, n4, n5, n6, n7, n8, n9⟩ := hN
  repeat' first | exact True.intro | with_reducible apply And.intro | intro _
  all_goals try omega
  all_goals try (unfold preW; (try rw [nil_n]); omega)
  all_goals try (first | exact psE_0 | exact isE_0 | exact usE_0 | exact hl _ (by omega))
  all_goals try (rw [w64 (by omega)]; omega)
  all_goals try (first
    | exact isE_next0 (by assumption) (by assumption) (by assumption) (by assumption) (by assumption) (by omega) (by omega)
    | exact isE_next1 (by assumption) (by assumption) (by assumption) (by assumption) (by assumption) (by assumption) (by omega) (by omega)
    | exact isE_next2 (by assumption) (by assumption) (by assumption) (by assumption) (by assumption) (by assumption) (by omega) (by omega)
    | exact psE_next (by assumption) (by assumption) (by assumption) (by assumption) (by assumption) (by omega) (by omega)
    | exact usE_next (by assumption) (by assumption) (by assumption) (by assumption) (by assumption) (by omega) (by omega)
    | exact trim_next (by assumption) (by assumption) (by assumption) (by omega)
    | (unfold errB; rw [if_pos he]))
  all_goals have hh := head_link (c := c) (by assumption) (by assumption) (by assumption) (by assumption) (by assumption) (by assumption) (by assumption) (by assumption) (by assumption) (by assumption)
  all_goals first
    | (have L := link_n hh (by assumption) (by assumption) (by assumption) (by assumption) (by assumption)
       first
        | exact good_f (by rw [L]; assumption)
        | exact good_t he (by rw [L]; assumption)
        | exact len_z L (by assumption) (by assumption)
        | exact len_e L (by assumption) (by assumption) (by assumption) (by omega)
        | (rw [L])
        | (unfold lenE; rw [L]; exact Nat.le_trans (trim_le _ _) (by omega)))
    | (have L := link_b hh (by assumption) (by assumption) (by assumption) (by assumption) (by assumption)
       first
        | exact good_f L.1
        | (have := L.2; simp_all; done))
noncomputable section
def conEnc : List SV → Hp → Out (SV × Hp) := conCfP fun c => .need True (psEnc c).out
theorem conEncR : ContractOK P 68 conEnc := conCfP_ok fun c => local_of_ps conR_ok fun _ => vhEncR c
theorem conEncP : ContractOK P 67 conEnc := conCfP_ok fun c => local_of_ps conP'_ok fun _ => vhEncP c
end
end Go.Proofs.Ytjpnpaboahbncaa.Vc
