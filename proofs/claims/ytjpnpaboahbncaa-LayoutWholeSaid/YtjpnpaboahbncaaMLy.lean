/- layout: the cells of a deque. -/
import Derived.Test.YtjpnpaboahbncaaMCk
set_option linter.unusedVariables false
set_option linter.unusedSimpArgs false
set_option maxRecDepth 100000
namespace Go.Proofs.Ytjpnpaboahbncaa.Ly
open Go Go.RowKit Sx Cn Dc Ck
noncomputable section
/-- A layout: its eleven numbers. -/
structure Lo where
  W : Int
  L : Int
  C : Int
  T : Int
  D : Int
  H : Int
  s : Int
  e : Int
  b : Int
  q : Int
  t : Int
def argL (l : Lo) : SV := .a [.iv .i64 l.W, .iv .i64 l.L, .iv .i64 l.C, .iv .i64 l.T, .iv .i64 l.D, .iv .i64 l.H, .iv .i64 l.s, .iv .i64 l.e, .iv .i64 l.b, .iv .i64 l.q, .iv .i64 l.t]
def qF (l : Lo) (w : Int) : Int := atF w l.W l.q (l.L * (2 + l.D))
def qT (l : Lo) (w v : Int) : Int := if qF l w < 0 then -1 else atF v l.L (qF l w) (2 + l.D)
def qV (l : Lo) (w v : Int) : SV := .a [.iv .i64 (if qT l w v < 0 then -1 else qT l w v), .iv .i64 (if qT l w v < 0 then -1 else qT l w v + 1), .iv .i64 (if qT l w v < 0 then -1 else qT l w v + 2), .iv .i64 (if qT l w v < 0 then 0 else l.D)]
def main40 (l : Lo) (w v : Int) : Out (SV × Hp) := execF P conAt noAnn 3 3 40 [argL l, iv w, iv v] emp
def okL (l : Lo) : Prop := (0 ≤ l.W ∧ l.W ≤ 1000) ∧ (0 ≤ l.L ∧ l.L ≤ 1000) ∧ (0 ≤ l.D ∧ l.D ≤ 1000) ∧ (0 ≤ l.q ∧ l.q ≤ 10000000000)
end
end Go.Proofs.Ytjpnpaboahbncaa.Ly

/- The cells of a deque: the executor's tree, printed by program. -/
set_option linter.unusedVariables false
set_option maxRecDepth 100000
namespace Go.Proofs.Ytjpnpaboahbncaa.Ly
open Go Go.RowKit Sx Cn Dc Ck

theorem main40_eq (l : Lo) (w v : Int) : main40 l w v =
  Out.need (¬(w < Int.ofNat 0 ∨ l.W ≤ w) → Fit (w * IntKind.i64.wrap (l.L * IntKind.i64.wrap (Int.ofNat 2 + l.D))) ∧ Fit (l.q + w * IntKind.i64.wrap (l.L * IntKind.i64.wrap (Int.ofNat 2 + l.D))))
    (Out.need (¬(v < Int.ofNat 0 ∨ l.L ≤ v) → Fit (v * IntKind.i64.wrap (Int.ofNat 2 + l.D)) ∧ Fit (atF w l.W l.q (IntKind.i64.wrap (l.L * IntKind.i64.wrap (Int.ofNat 2 + l.D))) + v * IntKind.i64.wrap (Int.ofNat 2 + l.D)))
    (Out.br (decide (atF w l.W l.q (IntKind.i64.wrap (l.L * IntKind.i64.wrap (Int.ofNat 2 + l.D))) < Int.ofNat 0))
    (Out.leaf (SV.a [SC.ki IntKind.i64 (Int.negSucc 0), SC.ki IntKind.i64 (Int.negSucc 0), SC.ki IntKind.i64 (Int.negSucc 0), SC.ki IntKind.i64 (Int.ofNat 0)], { h := [], nxt := 2, D := fun x => True }))
    (Out.br (decide (atF v l.L (atF w l.W l.q (IntKind.i64.wrap (l.L * IntKind.i64.wrap (Int.ofNat 2 + l.D)))) (IntKind.i64.wrap (Int.ofNat 2 + l.D)) < Int.ofNat 0))
    (Out.leaf (SV.a [SC.ki IntKind.i64 (Int.negSucc 0), SC.ki IntKind.i64 (Int.negSucc 0), SC.ki IntKind.i64 (Int.negSucc 0), SC.ki IntKind.i64 (Int.ofNat 0)], { h := [], nxt := 2, D := fun x => True }))
    (Out.leaf (SV.a [SC.iv IntKind.i64 (atF v l.L (atF w l.W l.q (IntKind.i64.wrap (l.L * IntKind.i64.wrap (Int.ofNat 2 + l.D)))) (IntKind.i64.wrap (Int.ofNat 2 + l.D))), SC.iv IntKind.i64 (IntKind.i64.wrap (atF v l.L (atF w l.W l.q (IntKind.i64.wrap (l.L * IntKind.i64.wrap (Int.ofNat 2 + l.D)))) (IntKind.i64.wrap (Int.ofNat 2 + l.D)) + Int.ofNat 1)), SC.iv IntKind.i64 (IntKind.i64.wrap (atF v l.L (atF w l.W l.q (IntKind.i64.wrap (l.L * IntKind.i64.wrap (Int.ofNat 2 + l.D)))) (IntKind.i64.wrap (Int.ofNat 2 + l.D)) + Int.ofNat 2)), SC.iv IntKind.i64 l.D], { h := [], nxt := 2, D := fun x => True }))))) := by kernel_rfl


end Go.Proofs.Ytjpnpaboahbncaa.Ly

/- layout: the cells of a deque: the contract. -/
set_option linter.unusedVariables false
set_option linter.unusedSimpArgs false
set_option maxRecDepth 100000
namespace Go.Proofs.Ytjpnpaboahbncaa.Ly
open Go Go.RowKit Sx Cn Dc Ck
theorem mulb {a b A B : Int} (h0 : 0 ≤ a) (h1 : a ≤ A) (h2 : 0 ≤ b) (h3 : b ≤ B) : 0 ≤ a * b ∧ a * b ≤ A * B :=
  ⟨Int.mul_nonneg h0 h2, Int.mul_le_mul h1 h3 h2 (by omega)⟩
theorem atF_bd {i n first w A B : Int} (hA : n ≤ A) (hw : 0 ≤ w ∧ w ≤ B) (hA0 : 0 ≤ A) : -1 ≤ atF i n first w ∨ first ≤ atF i n first w := by
  unfold atF
  split
  · left; omega
  · right
    have := (mulb (a := i) (b := w) (A := A) (B := B) (by omega) (by omega) hw.1 hw.2).1
    omega
theorem atF_le {i n first w A B : Int} (hA : n ≤ A) (hw : 0 ≤ w ∧ w ≤ B) (hA0 : 0 ≤ A) (hf : -1 ≤ first + A * B) : atF i n first w ≤ first + A * B := by
  unfold atF
  split
  · exact hf
  · have := (mulb (a := i) (b := w) (A := A) (B := B) (by omega) (by omega) hw.1 hw.2).2
    omega
noncomputable section
def post40 (l : Lo) (w v : Int) : Out (SV × Hp) := .need (okL l) (.leaf (qV l w v, ⟨[], 0, fun _ => True⟩))
theorem local40 (l : Lo) (w v : Int) : LocalOK P 40 [argL l, iv w, iv v] [] 0 (post40 l w v) :=
  LocalOK.monoR (p := main40 l w v) (CallOK.local (execF_ok0 (u := 3) conAt_ok 3) 40 [argL l, iv w, iv v] [] 0) fun K hK => by
    rw [main40_eq]
    obtain ⟨⟨hW, hL, hD, hq⟩, hK⟩ := hK
    have hK : K (qV l w v, ⟨[], 0, fun _ => True⟩) := hK
    have e1 : IntKind.i64.wrap (2 + l.D) = 2 + l.D := w64 (by omega)
    have hY := mulb (a := l.L) (b := 2 + l.D) (A := 1000) (B := 1002) hL.1 hL.2 (by omega) (by omega)
    have e2 : IntKind.i64.wrap (l.L * (2 + l.D)) = l.L * (2 + l.D) := w64 (by omega)
    have k2 : ((2 : Nat) : Int) = 2 := rfl
    have k1 : ((1 : Nat) : Int) = 1 := rfl
    have k0 : ((0 : Nat) : Int) = 0 := rfl
    simp only [Out.holds, Int.ofNat_eq_natCast, k2, k1, k0, e1, e2, eq_self, true_and, and_true]
    have hF1 : atF w l.W l.q (l.L * (2 + l.D)) = qF l w := rfl
    simp only [hF1]
    have hlo : -1 ≤ qF l w := by
      have := atF_bd (i := w) (n := l.W) (first := l.q) (w := l.L * (2 + l.D)) (A := 1000) (B := 1002000) hW.2 ⟨hY.1, by omega⟩ (by decide)
      unfold qF; omega
    have hhi : qF l w ≤ l.q + 1000 * 1002000 := atF_le hW.2 ⟨hY.1, by omega⟩ (by decide) (by omega)
    have hthi : atF v l.L (qF l w) (2 + l.D) ≤ qF l w + 1000 * 1002 := atF_le hL.2 ⟨by omega, by omega⟩ (by decide) (by omega)
    refine ⟨fun hn => ?_, fun hn => ?_, fun h => ?_, fun h => ⟨fun h2 => ?_, fun h2 => ?_⟩⟩
    · have hn : 0 ≤ w ∧ w ≤ l.W := by omega
      have := mulb (a := w) (b := l.L * (2 + l.D)) (A := 1000) (B := 1002000) hn.1 (by omega) hY.1 (by omega)
      exact ⟨⟨by omega, by omega⟩, ⟨by omega, by omega⟩⟩
    · have hn : 0 ≤ v ∧ v ≤ l.L := by omega
      have := mulb (a := v) (b := 2 + l.D) (A := 1000) (B := 1002) hn.1 (by omega) (by omega) (by omega)
      exact ⟨⟨by omega, by omega⟩, ⟨by omega, by omega⟩⟩
    · have h := of_decide_eq_true h
      have ht : qT l w v < 0 := by rw [qT, if_pos h]; decide
      refine ⟨qV l w v, ⟨[], 0, fun _ => True⟩, [], ⟨rfl, rfl, ⟨⟨?_, trivial⟩, trivial⟩, rfl⟩, rfl, Nat.zero_le _, hK⟩
      refine ⟨⟨rfl, ?_⟩, ⟨rfl, ?_⟩, ⟨rfl, ?_⟩, ⟨rfl, ?_⟩, trivial⟩ <;> rw [if_pos ht] <;> rfl
    · have h := of_decide_eq_false h
      have h2 := of_decide_eq_true h2
      have ht : qT l w v < 0 := by rw [qT, if_neg h]; exact h2
      refine ⟨qV l w v, ⟨[], 0, fun _ => True⟩, [], ⟨rfl, rfl, ⟨⟨?_, trivial⟩, trivial⟩, rfl⟩, rfl, Nat.zero_le _, hK⟩
      refine ⟨⟨rfl, ?_⟩, ⟨rfl, ?_⟩, ⟨rfl, ?_⟩, ⟨rfl, ?_⟩, trivial⟩ <;> rw [if_pos ht] <;> rfl
    · have h := of_decide_eq_false h
      have h2 := of_decide_eq_false h2
      have e : qT l w v = atF v l.L (qF l w) (2 + l.D) := by rw [qT, if_neg h]
      have ht : ¬ qT l w v < 0 := by rw [e]; exact h2
      have e1 : IntKind.i64.wrap (atF v l.L (qF l w) (2 + l.D) + 1) = atF v l.L (qF l w) (2 + l.D) + 1 := w64 (by omega)
      have e2 : IntKind.i64.wrap (atF v l.L (qF l w) (2 + l.D) + 2) = atF v l.L (qF l w) (2 + l.D) + 2 := w64 (by omega)
      refine ⟨qV l w v, ⟨[], 0, fun _ => True⟩, [], ⟨rfl, rfl, ⟨⟨?_, trivial⟩, trivial⟩, rfl⟩, rfl, Nat.zero_le _, hK⟩
      refine ⟨⟨rfl, ?_⟩, ⟨rfl, ?_⟩, ⟨rfl, ?_⟩, ⟨rfl, ?_⟩, trivial⟩ <;> rw [if_neg ht]
      · exact e.symm
      · rw [e]; exact e1
      · rw [e]; exact e2
def con40 : List SV → Hp → Out (SV × Hp) := fun args H => match args with
  | [.a [x0, x1, x2, x3, x4, x5, x6, x7, x8, x9, x10], .c w, .c v] => match numC x0, numC x1, numC x2, numC x3, numC x4, numC x5, numC x6, numC x7, numC x8, numC x9, numC x10, numC w, numC v with
    | some W, some L, some C, some T, some D, some h, some s, some e, some b, some q, some t, some w, some v => useT [] 0 [argL ⟨W, L, C, T, D, h, s, e, b, q, t⟩, iv w, iv v] [] (post40 ⟨W, L, C, T, D, h, s, e, b, q, t⟩ w v) args H
    | _, _, _, _, _, _, _, _, _, _, _, _, _ => .bad 450
  | _ => .bad 451
theorem con40_ok : ContractOK P 40 con40 := contract_of_use fun args H => by
  unfold con40
  repeat' split
  all_goals first | exact .inl ⟨_, rfl⟩ | exact .inr ⟨_, _, _, _, _, rfl, local40 _ _ _⟩
end
end Go.Proofs.Ytjpnpaboahbncaa.Ly

/- layout.New of a valid configuration. -/
set_option linter.unusedVariables false
set_option linter.unusedSimpArgs false
set_option maxRecDepth 100000
namespace Go.Proofs.Ytjpnpaboahbncaa.Ly
open Go Go.RowKit Sx Cn Dc Ck
noncomputable section
def main34 (c : Cf) : Out (SV × Hp) := execF P con9 noAnn 3 4 34 [argC c] ⟨hC c, 3, fun _ => True⟩
end
end Go.Proofs.Ytjpnpaboahbncaa.Ly

/- layout.New: the executor's tree, printed by program. -/
set_option linter.unusedVariables false
set_option maxRecDepth 100000
namespace Go.Proofs.Ytjpnpaboahbncaa.Ly
open Go Go.RowKit Sx Cn Dc Ck

theorem main34_eq (c : Cf) : main34 c =
  Out.need ((((IntKind.i64 = IntKind.i64 ∧ c.W = c.W) ∧ (IntKind.i64 = IntKind.i64 ∧ c.L = c.L) ∧ (IntKind.i64 = IntKind.i64 ∧ c.C = c.C) ∧ (IntKind.i64 = IntKind.i64 ∧ c.T = c.T) ∧ (IntKind.i64 = IntKind.i64 ∧ c.D = c.D) ∧ (IntKind.i64 = IntKind.i64 ∧ c.H = c.H) ∧ (IntKind.i64 = IntKind.i64 ∧ c.B = c.B) ∧ (IntKind.i64 = IntKind.i64 ∧ c.A = c.A) ∧ (IntKind.i64 = IntKind.i64 ∧ c.P = c.P) ∧ (0 = 0 ∧ 0 = 0 ∧ 0 = 0 ∧ 1 = 1 ∧ c.nP = c.nP ∧ c.rc = c.rc) ∧ (1 = 1 ∧ 0 = 0 ∧ 0 = 0 ∧ 3 = 3 ∧ c.nU = c.nU ∧ c.cu = c.cu) ∧ True) ∧ True) ∧ (1 ≤ 1 ∧ (∀ (i : Nat), i < 1 → c.nP ≤ c.nP) ∧ (2 = 2 ∧ 3 = 3 ∧ (∀ (i e : Nat), i < 1 ∧ e < c.nP → e = e) ∧ (∀ (i e : Nat), i < 1 ∧ e < c.nP → c.lenP e = c.lenP e) ∧ ∀ (i e : Nat), i < 1 ∧ e < c.nP → c.FC e = c.FC e) ∧ True) ∧ (1 ≤ 1 ∧ (∀ (i : Nat), i < 1 → c.nU ≤ c.nU) ∧ (IntKind.i64 = IntKind.i64 ∧ ∀ (i e : Nat), i < 1 ∧ e < c.nU → c.uP e = c.uP e) ∧ (IntKind.i64 = IntKind.i64 ∧ ∀ (i e : Nat), i < 1 ∧ e < c.nU → c.uL e = c.uL e) ∧ (IntKind.i64 = IntKind.i64 ∧ ∀ (i e : Nat), i < 1 ∧ e < c.nU → c.uD e = c.uD e) ∧ True) ∧ (c.nP ≤ c.nP ∧ (∀ (i : Nat), i < c.nP → c.lenP i ≤ c.lenP i) ∧ (IntKind.i64 = IntKind.i64 ∧ ∀ (i e : Nat), i < c.nP ∧ e < c.lenP i → c.iO i e = c.iO i e) ∧ (IntKind.i64 = IntKind.i64 ∧ ∀ (i e : Nat), i < c.nP ∧ e < c.lenP i → c.iA i e = c.iA i e) ∧ (IntKind.i64 = IntKind.i64 ∧ ∀ (i e : Nat), i < c.nP ∧ e < c.lenP i → c.iB i e = c.iB i e) ∧ True) ∧ True)
    (Out.need (okC { W := c.W, L := c.L, C := c.C, T := c.T, D := c.D, H := c.H, B := c.B, A := c.A, P := c.P, nP := c.nP, rc := c.rc, nU := c.nU, cu := c.cu, lenP := fun e => c.lenP e, FC := fun e => c.FC e, iO := fun i e => c.iO i e, iA := fun i e => c.iA i e, iB := fun i e => c.iB i e, uP := fun e => c.uP e, uL := fun e => c.uL e, uD := fun e => c.uD e })
    (Out.leaf (SV.t [TE.a [SC.iv IntKind.i64 c.W, SC.iv IntKind.i64 c.L, SC.iv IntKind.i64 c.C, SC.iv IntKind.i64 c.T, SC.iv IntKind.i64 c.D, SC.iv IntKind.i64 c.H, SC.iv IntKind.i64 (IntKind.i64.wrap (Int.ofNat 4 + c.H)), SC.iv IntKind.i64 (IntKind.i64.wrap (IntKind.i64.wrap (Int.ofNat 4 + c.H) + c.C)), SC.iv IntKind.i64 (IntKind.i64.wrap (IntKind.i64.wrap (IntKind.i64.wrap (Int.ofNat 4 + c.H) + c.C) + c.W)), SC.iv IntKind.i64 (IntKind.i64.wrap (IntKind.i64.wrap (IntKind.i64.wrap (IntKind.i64.wrap (Int.ofNat 4 + c.H) + c.C) + c.W) + c.W)), SC.iv IntKind.i64 (IntKind.i64.wrap (IntKind.i64.wrap (IntKind.i64.wrap (IntKind.i64.wrap (IntKind.i64.wrap (Int.ofNat 4 + c.H) + c.C) + c.W) + c.W) + IntKind.i64.wrap (IntKind.i64.wrap (c.W * c.L) * IntKind.i64.wrap (Int.ofNat 2 + c.D))))], TE.c (SC.ki IntKind.i64 (Int.ofNat 0))], { h := [(0, Blk.view 1 (fun x => c.nP) [Col.cs 2 3 (fun x e => e) (fun x e => c.lenP e) fun x e => c.FC e]), (1, Blk.view 1 (fun x => c.nU) [Col.ci IntKind.i64 fun x e => c.uP e, Col.ci IntKind.i64 fun x e => c.uL e, Col.ci IntKind.i64 fun x e => c.uD e]), (2, Blk.view c.nP c.lenP [Col.ci IntKind.i64 fun i e => c.iO i e, Col.ci IntKind.i64 fun i e => c.iA i e, Col.ci IntKind.i64 fun i e => c.iB i e])], nxt := 6, D := fun x => True }))) := by kernel_rfl


end Go.Proofs.Ytjpnpaboahbncaa.Ly

/- layout.New of a valid configuration: the contract. -/
set_option linter.unusedVariables false
set_option linter.unusedSimpArgs false
set_option maxRecDepth 100000
namespace Go.Proofs.Ytjpnpaboahbncaa.Ly
open Go Go.RowKit Sx Cn Dc Ck
noncomputable section
def loS (H : Int) : Int := 4 + H
def loE (H C : Int) : Int := 4 + H + C
def loB (H C W : Int) : Int := 4 + H + C + W
def loQ (H C W : Int) : Int := 4 + H + C + W + W
def loT (H C W L D : Int) : Int := 4 + H + C + W + W + W * L * (2 + D)
def newV (c : Cf) : SV := .t [.a [.iv .i64 c.W, .iv .i64 c.L, .iv .i64 c.C, .iv .i64 c.T, .iv .i64 c.D, .iv .i64 c.H, .iv .i64 (loS c.H), .iv .i64 (loE c.H c.C), .iv .i64 (loB c.H c.C c.W), .iv .i64 (loQ c.H c.C c.W), .iv .i64 (loT c.H c.C c.W c.L c.D)], .c (.ki .i64 0)]
theorem local34 (c : Cf) : LocalOK P 34 [argC c] (hC c) 3 (postOK c (newV c)) :=
  LocalOK.monoR (p := main34 c) (CallOK.local (execF_ok0 (u := 3) con9_ok 4) 34 [argC c] (hC c) 3) fun K hK => by
    rw [main34_eq]
    obtain ⟨hc, hK⟩ := hK
    obtain ⟨⟨h1, h2, h3, h4, h5, h6, h7, h8, h9⟩, hP, hU⟩ := id hc
    have hX := mulb (a := c.W) (b := c.L) (A := 16) (B := 64) (by omega) h1.2 (by omega) h2.2
    have hY := mulb (a := c.W * c.L) (b := 2 + c.D) (A := 1024) (B := 66) hX.1 (by omega) (by omega) (by omega)
    have w1 : IntKind.i64.wrap (4 + c.H) = 4 + c.H := w64 (by omega)
    have w2 : IntKind.i64.wrap (4 + c.H + c.C) = 4 + c.H + c.C := w64 (by omega)
    have w3 : IntKind.i64.wrap (4 + c.H + c.C + c.W) = 4 + c.H + c.C + c.W := w64 (by omega)
    have w4 : IntKind.i64.wrap (4 + c.H + c.C + c.W + c.W) = 4 + c.H + c.C + c.W + c.W := w64 (by omega)
    have w5 : IntKind.i64.wrap (c.W * c.L) = c.W * c.L := w64 (by omega)
    have w6 : IntKind.i64.wrap (2 + c.D) = 2 + c.D := w64 (by omega)
    have w7 : IntKind.i64.wrap (c.W * c.L * (2 + c.D)) = c.W * c.L * (2 + c.D) := w64 (by omega)
    have w8 : IntKind.i64.wrap (4 + c.H + c.C + c.W + c.W + c.W * c.L * (2 + c.D)) = 4 + c.H + c.C + c.W + c.W + c.W * c.L * (2 + c.D) := w64 (by omega)
    simp only [Out.holds, eq_self, true_and, and_true, Nat.le_refl, implies_true, Int.ofNat_eq_natCast, Nat.lt_add_one, Int.cast_ofNat_Int, w1, w2, w3, w4, w5, w6, w7, w8]
    refine ⟨hc, newV c, ⟨[], 3, fun _ => True⟩, [], ⟨rfl, rfl, ⟨⟨?_, trivial⟩, trivial⟩, rfl⟩, rfl, Nat.le_refl _, hK⟩
    refine ⟨⟨⟨rfl, rfl⟩, ⟨rfl, rfl⟩, ⟨rfl, rfl⟩, ⟨rfl, rfl⟩, ⟨rfl, rfl⟩, ⟨rfl, rfl⟩, ⟨rfl, rfl⟩, ⟨rfl, rfl⟩, ⟨rfl, rfl⟩, ⟨rfl, rfl⟩, ⟨rfl, rfl⟩, trivial⟩, ⟨rfl, rfl⟩, trivial⟩
def con34 : List SV → Hp → Out (SV × Hp) := conCf fun c => postOK c (newV c)
theorem con34_ok : ContractOK P 34 con34 := conCf_ok local34
end
end Go.Proofs.Ytjpnpaboahbncaa.Ly

/- LayoutOutside: the function. -/
set_option linter.unusedVariables false
set_option linter.unusedSimpArgs false
set_option maxRecDepth 100000
namespace Go.Proofs.Ytjpnpaboahbncaa.Ly
open Go Go.RowKit Sx Cn Dc Ck
theorem local35 : LocalOK P 35 [] [] 0 (.leaf (.c (.kb true), ⟨[], 0, fun _ => True⟩)) :=
  LocalOK.monoR (p := awake35) (CallOK.local (execF_ok0 (P := P) (con := con0) (u := 12) ConOK.nil 8) 35 [] [] 0) fun K hK => by
    rw [awake35_eq]
    have hK : K (.c (.kb true), ⟨[], 0, fun _ => True⟩) := hK
    simp only [Out.holds, eq_self, true_and, and_true, Nat.le_refl, Nat.zero_lt_one]
    refine ⟨by decide, fun x hx => ⟨.c (.kb true), ⟨[], 0, fun _ => True⟩, [], ⟨rfl, rfl, ⟨⟨rfl, trivial⟩, trivial⟩, rfl⟩, rfl, Nat.zero_le _, hK⟩⟩
noncomputable section
def con35 : List SV → Hp → Out (SV × Hp) := fun args H => match args with
  | [] => useT [] 0 [] [] (.leaf (.c (.kb true), ⟨[], 0, fun _ => True⟩)) args H
  | _ => .bad 440
theorem con35_ok : ContractOK P 35 con35 := contract_of_use fun args H => by
  unfold con35
  repeat' split
  all_goals first | exact .inl ⟨_, rfl⟩ | exact .inr ⟨_, _, _, _, _, rfl, local35⟩
def con10 : Con := Con.add 34 con34 (Con.add 40 con40 (Con.add 35 con35 con9))
theorem con10_ok : ConOK P con10 := .add con34_ok (.add con40_ok (.add con35_ok con9_ok))
def main8 (g : Nat → Int) (len cap : Nat) (i : Int) : Out (SV × Hp) := execF P con10 noAnn 3 6 8 [.c (slK 0 1 len cap), iv i] ⟨[(0, ints .u8 len g)], 1, fun _ => True⟩
end
end Go.Proofs.Ytjpnpaboahbncaa.Ly
