/- Check of any configuration: what it answers; what is said of its loops. -/
import Derived.Test.YtjpnpaboahbncaaMV
import Derived.Test.YtjpnpaboahbncaaMCk
set_option linter.unusedVariables false
set_option linter.unusedSimpArgs false
set_option linter.unusedVariables false
namespace Go.Proofs.Ytjpnpaboahbncaa.Vc
open Go Go.RowKit Sx Cn Dc Ck
/-- The number in a temporary. -/
def intT (i : Nat) (s : St) : Option Int := match s.tmps[i]? with
  | some (some (.c c)) => match asI (.c c) with
    | some r => some r.2.2
    | none => none
  | _ => none
noncomputable section
open Classical in
/-- The first error of the programs from the i-th on, k of them. -/
def pE (c : Cf) : Nat → Nat → Int
  | _, 0 => 0
  | i, k + 1 => if 32 < c.lenP i then 2 else if ∃ e, e < c.lenP i ∧ ¬ okI c i e then 1 else pE c (i + 1) k
open Classical in
def uE (c : Cf) : Nat → Nat → Int
  | _, 0 => 0
  | i, k + 1 => if ¬ (0 ≤ c.uP i ∧ c.uP i ≤ (c.nP : Int) - 1) then 3 else if ¬ ((0 ≤ c.uL i ∧ c.uL i ≤ c.L - 1) ∧ (0 ≤ c.uD i ∧ c.uD i ≤ 16777215)) then 1 else uE c (i + 1) k
open Classical in
def progE (c : Cf) : Int := if ¬ (1 ≤ c.nP ∧ c.nP ≤ 32) then 2 else pE c 0 c.nP
open Classical in
def subE (c : Cf) : Int := if 64 < c.nU then 2 else uE c 0 c.nU
open Classical in
def errE (c : Cf) : Int := if ¬ okN c then 1 else if progE c ≠ 0 then progE c else subE c
def retC (x : Int) (c : Cf) (pre : Prop) : Out (SV × Hp) := .need pre (.leaf (iv x, ⟨[], 3, fun _ => True⟩))
section
variable (c : Cf)
/-- A loop with a counter alone. -/
def cntL (t : Nat) (I : Int → Prop) (n : Nat) : LA Int := ⟨[], fun _ => [], [t], fun i => [iv i], intT t, I, fun i => n - i.toNat⟩
def progI (i : Int) : Prop := 0 ≤ i ∧ i ≤ c.nP ∧ pE c i.toNat (c.nP - i.toNat) = pE c 0 c.nP
def instrI (i : Int) (k : Int) : Prop := 0 ≤ k ∧ k ≤ c.lenP i.toNat ∧ ∀ e : Nat, (e : Int) < k → okI c i.toNat e
def subI (i : Int) : Prop := 0 ≤ i ∧ i ≤ c.nU ∧ uE c i.toNat (c.nU - i.toNat) = uE c 0 c.nU
def av101 : AV := .loop Int [] (fun _ => some (cntL 15 (progI c) c.nP)) (.loop Int [] (fun s => (intT 15 s).map fun i => cntL 24 (instrI c i) (c.lenP i.toNat)) .nil .nil) .nil
def av102 : AV := .loop Int [] (fun _ => some (cntL 12 (subI c) c.nU)) .nil .nil
def fin0 (x : Int) : SV → Hp → V := finV (X := Unit) 3 3 (fun _ _ => some ()) (fun _ _ => []) (fun _ => True) (fun _ => iv x) (fun _ => [])
def ver101 : V := verF P con7 3 3 101 [] (av101 c) [argC c] ⟨hC c, 3, fun _ => True⟩ (fin0 (progE c))
def ver102 : V := verF P con7 3 3 102 [] (av102 c) [argC c] ⟨hC c, 3, fun _ => True⟩ (fin0 (subE c))
end
end
end Go.Proofs.Ytjpnpaboahbncaa.Vc


/- config.Check of any configuration: the conditions, printed by program. -/
set_option linter.unusedVariables false
set_option maxRecDepth 100000
namespace Go.Proofs.Ytjpnpaboahbncaa.Vc
open Go Go.RowKit Sx Cn Dc Ck

theorem ver101_eq (c : Cf) : ver101 c =
  V.br (!decide (Int.ofNat 1 ≤ (↑c.nP : Int) ∧ (↑c.nP : Int) ≤ Int.ofNat 32))
    (V.need True
    (V.need (Int.ofNat 2 = progE c) V.ok))
    (V.need (Int.ofNat 0 ≤ Int.ofNat 0 ∧ Int.ofNat 0 ≤ (↑c.nP : Int) ∧ pE c 0 (c.nP - 0) = pE c 0 c.nP)
    (V.need (Int.ofNat 0 = Int.ofNat 0)
    (V.any Int (progI c) fun x => V.br (decide (x < (↑c.nP : Int)))
    (V.need (Int.ofNat 0 ≤ x ∧ x < (↑c.nP : Int))
    (V.need (0 < 1 ∧ 0 + x.toNat < c.nP)
    (V.need (0 < 1 ∧ 0 + x.toNat < c.nP)
    (V.br (decide ((↑(c.lenP (0 + x.toNat)) : Int) > Int.ofNat 32))
    (V.need True
    (V.need (Int.ofNat 2 = progE c) V.ok))
    (V.need (Int.ofNat 0 ≤ Int.ofNat 0 ∧ Int.ofNat 0 ≤ (↑(c.lenP x.toNat) : Int) ∧ ∀ (e : Nat), (↑e : Int) < Int.ofNat 0 → okI c x.toNat e)
    (V.need (Int.ofNat 0 = Int.ofNat 0)
    (V.any Int (instrI c x) fun x_1 => V.br (decide (x_1 < (↑(c.lenP (0 + x.toNat)) : Int)))
    (V.need (Int.ofNat 0 ≤ x_1 ∧ x_1 < (↑(c.lenP (0 + x.toNat)) : Int))
    (V.need (0 + x.toNat < c.nP ∧ 0 + x_1.toNat < c.lenP (0 + x.toNat))
    (V.need (0 + x.toNat < c.nP ∧ 0 + x_1.toNat < c.lenP (0 + x.toNat))
    (V.need (0 + x.toNat < c.nP ∧ 0 + x_1.toNat < c.lenP (0 + x.toNat))
    (V.need (0 + x.toNat < c.nP ∧ 0 + x_1.toNat < c.lenP (0 + x.toNat))
    (V.need (0 < 1 ∧ 0 < 1)
    (V.need (0 < 1 ∧ 0 < 1)
    (V.need (0 < 1 ∧ 0 < 1)
    (V.need (0 < 1 ∧ 0 < 1)
    (V.need (0 < 1 ∧ 0 < 1)
    (V.need (0 < 1 ∧ 0 < 1)
    (V.need (0 < 1 ∧ 0 < 1)
    (V.need (0 < 1 ∧ 0 < 1)
    (V.need (0 < 1 ∧ 0 < 1)
    (V.need (0 < 1 ∧ 0 < 1)
    (V.need (0 < 1 ∧ 0 < 1)
    (V.br (c.iO (0 + x.toNat) (0 + x_1.toNat) == Int.ofNat 0)
    (V.br (decide (Int.ofNat 1 ≤ c.iA (0 + x.toNat) (0 + x_1.toNat) ∧ c.iA (0 + x.toNat) (0 + x_1.toNat) ≤ Int.ofNat 64))
    (V.br (!c.iB (0 + x.toNat) (0 + x_1.toNat) == Int.ofNat 0)
    (V.need True
    (V.need (Int.ofNat 1 = progE c) V.ok))
    (V.need (Int.ofNat 0 ≤ IntKind.i64.wrap (x_1 + Int.ofNat 1) ∧ IntKind.i64.wrap (x_1 + Int.ofNat 1) ≤ (↑(c.lenP x.toNat) : Int) ∧ ∀ (e : Nat), (↑e : Int) < IntKind.i64.wrap (x_1 + Int.ofNat 1) → okI c x.toNat e)
    (V.need (c.lenP x.toNat - (IntKind.i64.wrap (x_1 + Int.ofNat 1)).toNat < c.lenP x.toNat - x_1.toNat)
    (V.need (IntKind.i64.wrap (x_1 + Int.ofNat 1) = IntKind.i64.wrap (x_1 + Int.ofNat 1)) V.ok))))
    (V.need True
    (V.need (Int.ofNat 1 = progE c) V.ok)))
    (V.br (c.iO (0 + x.toNat) (0 + x_1.toNat) == Int.ofNat 1)
    (V.br (decide (Int.ofNat 0 ≤ c.iA (0 + x.toNat) (0 + x_1.toNat) ∧ c.iA (0 + x.toNat) (0 + x_1.toNat) ≤ IntKind.i64.wrap ((↑c.nP : Int) - Int.ofNat 1)))
    (V.br (!decide (Int.ofNat 0 ≤ c.iB (0 + x.toNat) (0 + x_1.toNat) ∧ c.iB (0 + x.toNat) (0 + x_1.toNat) ≤ IntKind.i64.wrap (c.L - Int.ofNat 1)))
    (V.need True
    (V.need (Int.ofNat 1 = progE c) V.ok))
    (V.need (Int.ofNat 0 ≤ IntKind.i64.wrap (x_1 + Int.ofNat 1) ∧ IntKind.i64.wrap (x_1 + Int.ofNat 1) ≤ (↑(c.lenP x.toNat) : Int) ∧ ∀ (e : Nat), (↑e : Int) < IntKind.i64.wrap (x_1 + Int.ofNat 1) → okI c x.toNat e)
    (V.need (c.lenP x.toNat - (IntKind.i64.wrap (x_1 + Int.ofNat 1)).toNat < c.lenP x.toNat - x_1.toNat)
    (V.need (IntKind.i64.wrap (x_1 + Int.ofNat 1) = IntKind.i64.wrap (x_1 + Int.ofNat 1)) V.ok))))
    (V.need True
    (V.need (Int.ofNat 1 = progE c) V.ok)))
    (V.br (c.iO (0 + x.toNat) (0 + x_1.toNat) == Int.ofNat 2)
    (V.br (decide (Int.ofNat 0 ≤ c.iA (0 + x.toNat) (0 + x_1.toNat) ∧ c.iA (0 + x.toNat) (0 + x_1.toNat) ≤ Int.ofNat 31))
    (V.br (!c.iB (0 + x.toNat) (0 + x_1.toNat) == Int.ofNat 0)
    (V.need True
    (V.need (Int.ofNat 1 = progE c) V.ok))
    (V.need (Int.ofNat 0 ≤ IntKind.i64.wrap (x_1 + Int.ofNat 1) ∧ IntKind.i64.wrap (x_1 + Int.ofNat 1) ≤ (↑(c.lenP x.toNat) : Int) ∧ ∀ (e : Nat), (↑e : Int) < IntKind.i64.wrap (x_1 + Int.ofNat 1) → okI c x.toNat e)
    (V.need (c.lenP x.toNat - (IntKind.i64.wrap (x_1 + Int.ofNat 1)).toNat < c.lenP x.toNat - x_1.toNat)
    (V.need (IntKind.i64.wrap (x_1 + Int.ofNat 1) = IntKind.i64.wrap (x_1 + Int.ofNat 1)) V.ok))))
    (V.need True
    (V.need (Int.ofNat 1 = progE c) V.ok)))
    (V.need True
    (V.need (Int.ofNat 1 = progE c) V.ok)))))))))))))))))))))
    (V.need (Int.ofNat 0 ≤ IntKind.i64.wrap (x + Int.ofNat 1) ∧ IntKind.i64.wrap (x + Int.ofNat 1) ≤ (↑c.nP : Int) ∧ pE c (IntKind.i64.wrap (x + Int.ofNat 1)).toNat (c.nP - (IntKind.i64.wrap (x + Int.ofNat 1)).toNat) = pE c 0 c.nP)
    (V.need (c.nP - (IntKind.i64.wrap (x + Int.ofNat 1)).toNat < c.nP - x.toNat)
    (V.need (IntKind.i64.wrap (x + Int.ofNat 1) = IntKind.i64.wrap (x + Int.ofNat 1)) V.ok))))))))))
    (V.need True
    (V.need (Int.ofNat 0 = progE c) V.ok))))) := by kernel_rfl

theorem ver102_eq (c : Cf) : ver102 c =
  V.br (decide ((↑c.nU : Int) > Int.ofNat 64))
    (V.need True
    (V.need (Int.ofNat 2 = subE c) V.ok))
    (V.need (Int.ofNat 0 ≤ Int.ofNat 0 ∧ Int.ofNat 0 ≤ (↑c.nU : Int) ∧ uE c 0 (c.nU - 0) = uE c 0 c.nU)
    (V.need (Int.ofNat 0 = Int.ofNat 0)
    (V.any Int (subI c) fun x => V.br (decide (x < (↑c.nU : Int)))
    (V.need (Int.ofNat 0 ≤ x ∧ x < (↑c.nU : Int))
    (V.need (0 < 1 ∧ 0 + x.toNat < c.nU)
    (V.need (0 < 1 ∧ 0 + x.toNat < c.nU)
    (V.need (0 < 1 ∧ 0 + x.toNat < c.nU)
    (V.need (0 < 1 ∧ 0 + x.toNat < c.nU)
    (V.need (0 < 1 ∧ 0 < 1)
    (V.need (0 < 1 ∧ 0 < 1)
    (V.br (!decide (Int.ofNat 0 ≤ c.uP (0 + x.toNat) ∧ c.uP (0 + x.toNat) ≤ IntKind.i64.wrap ((↑c.nP : Int) - Int.ofNat 1)))
    (V.need True
    (V.need (Int.ofNat 3 = subE c) V.ok))
    (V.need (0 < 1 ∧ 0 < 1)
    (V.need (0 < 1 ∧ 0 < 1)
    (V.br (!decide (Int.ofNat 0 ≤ c.uL (0 + x.toNat) ∧ c.uL (0 + x.toNat) ≤ IntKind.i64.wrap (c.L - Int.ofNat 1)))
    (V.need True
    (V.need (Int.ofNat 1 = subE c) V.ok))
    (V.br (!decide (Int.ofNat 0 ≤ c.uD (0 + x.toNat) ∧ c.uD (0 + x.toNat) ≤ Int.ofNat 16777215))
    (V.need True
    (V.need (Int.ofNat 1 = subE c) V.ok))
    (V.need (Int.ofNat 0 ≤ IntKind.i64.wrap (x + Int.ofNat 1) ∧ IntKind.i64.wrap (x + Int.ofNat 1) ≤ (↑c.nU : Int) ∧ uE c (IntKind.i64.wrap (x + Int.ofNat 1)).toNat (c.nU - (IntKind.i64.wrap (x + Int.ofNat 1)).toNat) = uE c 0 c.nU)
    (V.need (c.nU - (IntKind.i64.wrap (x + Int.ofNat 1)).toNat < c.nU - x.toNat)
    (V.need (IntKind.i64.wrap (x + Int.ofNat 1) = IntKind.i64.wrap (x + Int.ofNat 1)) V.ok)))))))))))))))
    (V.need True
    (V.need (Int.ofNat 0 = subE c) V.ok))))) := by kernel_rfl


end Go.Proofs.Ytjpnpaboahbncaa.Vc


/- config.Check of any configuration: the contracts. -/
set_option linter.unusedVariables false
set_option linter.unusedSimpArgs false
set_option maxRecDepth 100000
namespace Go.Proofs.Ytjpnpaboahbncaa.Vc
open Go Go.RowKit Sx Cn Dc Ck

theorem pE_step {c : Cf} {i : Nat} (h : i < c.nP) (hl : c.lenP i ≤ 32) (ha : ∀ e, e < c.lenP i → okI c i e) : pE c i (c.nP - i) = pE c (i + 1) (c.nP - (i + 1)) := by
  rw [show c.nP - i = c.nP - (i + 1) + 1 by omega, pE, if_neg (by omega), if_neg (by rintro ⟨e, h1, h2⟩; exact h2 (ha e h1))]
theorem pE_len {c : Cf} {i : Nat} (h : i < c.nP) (hl : 32 < c.lenP i) : pE c i (c.nP - i) = 2 := by
  rw [show c.nP - i = c.nP - (i + 1) + 1 by omega, pE, if_pos hl]
theorem pE_bad {c : Cf} {i e : Nat} (h : i < c.nP) (hl : c.lenP i ≤ 32) (he : e < c.lenP i) (hb : ¬ okI c i e) : pE c i (c.nP - i) = 1 := by
  rw [show c.nP - i = c.nP - (i + 1) + 1 by omega, pE, if_neg (by omega), if_pos ⟨e, he, hb⟩]
theorem pE_end {c : Cf} : pE c c.nP (c.nP - c.nP) = 0 := by rw [Nat.sub_self]; rfl
theorem prog_rest {c : Cf} (h : (1 : Int) ≤ c.nP ∧ (c.nP : Int) ≤ 32) : progE c = pE c 0 c.nP := by
  unfold progE; rw [if_neg (by omega)]
theorem prog_len {c : Cf} {i : Int} (h : (1 : Int) ≤ c.nP ∧ (c.nP : Int) ≤ 32) (hi : 0 ≤ i ∧ i ≤ (c.nP : Int) ∧ pE c i.toNat (c.nP - i.toNat) = pE c 0 c.nP) (hlt : i < c.nP) (hl : (32 : Int) < c.lenP i.toNat) : 2 = progE c := by
  rw [prog_rest h, ← hi.2.2, pE_len (by omega) (by omega)]
theorem prog_bad {c : Cf} {i k : Int} (h : (1 : Int) ≤ c.nP ∧ (c.nP : Int) ≤ 32) (hi : 0 ≤ i ∧ i ≤ (c.nP : Int) ∧ pE c i.toNat (c.nP - i.toNat) = pE c 0 c.nP) (hlt : i < c.nP) (hl : ¬ (32 : Int) < c.lenP i.toNat) (hk : k < c.lenP i.toNat) (h0 : 0 ≤ k) (hb : ¬ okI c i.toNat k.toNat) : 1 = progE c := by
  rw [prog_rest h, ← hi.2.2, pE_bad (by omega) (by omega) (e := k.toNat) (by omega) hb]
theorem instr_next {c : Cf} {i k : Int} (hk : 0 ≤ k ∧ k ≤ (c.lenP i.toNat : Int) ∧ ∀ e : Nat, (e : Int) < k → okI c i.toNat e) (hl : k < c.lenP i.toNat) (hm : ¬ (32 : Int) < c.lenP i.toNat) {e : Nat} (he : (e : Int) < IntKind.i64.wrap (k + 1)) (ho : okI c i.toNat k.toNat) : okI c i.toNat e := by
  rw [w64 (by omega)] at he
  rcases Int.lt_or_eq_of_le (show (e : Int) ≤ k by omega) with h | h
  · exact hk.2.2 e h
  · have : e = k.toNat := by omega
    rw [this]; exact ho
theorem prog_next {c : Cf} {i k : Int} (h : (1 : Int) ≤ c.nP ∧ (c.nP : Int) ≤ 32) (hi : 0 ≤ i ∧ i ≤ (c.nP : Int) ∧ pE c i.toNat (c.nP - i.toNat) = pE c 0 c.nP) (hlt : i < c.nP) (hl : ¬ (32 : Int) < c.lenP i.toNat) (hk : 0 ≤ k ∧ k ≤ (c.lenP i.toNat : Int) ∧ ∀ e : Nat, (e : Int) < k → okI c i.toNat e) (hn : ¬ k < c.lenP i.toNat) :
    pE c (IntKind.i64.wrap (i + 1)).toNat (c.nP - (IntKind.i64.wrap (i + 1)).toNat) = pE c 0 c.nP := by
  rw [w64 (by omega), ← hi.2.2, pE_step (i := i.toNat) (by omega) (by omega) (fun e he => hk.2.2 e (by omega)), show (i + 1).toNat = i.toNat + 1 by omega]
theorem prog_end {c : Cf} {i : Int} (h : (1 : Int) ≤ c.nP ∧ (c.nP : Int) ≤ 32) (hi : 0 ≤ i ∧ i ≤ (c.nP : Int) ∧ pE c i.toNat (c.nP - i.toNat) = pE c 0 c.nP) (hn : ¬ i < c.nP) : 0 = progE c := by
  rw [prog_rest h, ← hi.2.2, show i.toNat = c.nP by omega, pE_end]
theorem vh101 {c : Cf} (hN : okN c) : VHolds (ver101 c) := by
  constructor
  rw [ver101_eq]
  obtain ⟨_, hNL, _⟩ := hN
  simp only [V.holds, progI, instrI, Int.ofNat_eq_natCast, decide_eq_true_eq, decide_eq_false_iff_not, Bool.not_eq_true', Bool.not_eq_false', beq_iff_eq, beq_eq_false_iff_ne, ne_eq, true_and, and_true, forall_const, true_implies, implies_true, Nat.zero_add, Nat.sub_zero, Nat.lt_add_one, Nat.zero_lt_one, Int.natCast_zero, Int.natCast_one, Int.cast_ofNat_Int, gt_iff_lt, and_self, eq_self]
  have w1 : (1 : Int) ≤ c.nP ∧ (c.nP : Int) ≤ 32 → IntKind.i64.wrap ((c.nP : Int) - 1) = (c.nP : Int) - 1 := fun h => w64 (by omega)
  have w2 : IntKind.i64.wrap (c.L - 1) = c.L - 1 := w64 (by omega)
  rw [w2]
  repeat' first | exact True.intro | apply And.intro | intro _
  all_goals try omega
  all_goals try (unfold progE; rw [if_pos (by omega)]; done)
  all_goals try (first | exact prog_len (by assumption) (by assumption) (by assumption) (by assumption))
  all_goals try (rw [w1 (by assumption)] at *)
  all_goals try (exact prog_bad (by assumption) (by assumption) (by assumption) (by assumption) (by assumption) (by omega) (by unfold okI; omega))
  all_goals try (exact instr_next (by assumption) (by assumption) (by assumption) (by assumption) (by unfold okI; omega))
  all_goals try (exact prog_next (by assumption) (by assumption) (by assumption) (by assumption) (by assumption) (by assumption))
  all_goals try (rw [w64 (by omega)]; omega)
  all_goals exact prog_end (by assumption) (by assumption) (by assumption)
theorem uE_step {c : Cf} {i : Nat} (h : i < c.nU) (h1 : 0 ≤ c.uP i ∧ c.uP i ≤ (c.nP : Int) - 1) (h2 : (0 ≤ c.uL i ∧ c.uL i ≤ c.L - 1) ∧ (0 ≤ c.uD i ∧ c.uD i ≤ 16777215)) : uE c i (c.nU - i) = uE c (i + 1) (c.nU - (i + 1)) := by
  rw [show c.nU - i = c.nU - (i + 1) + 1 by omega, uE, if_neg (by omega), if_neg (by omega)]
theorem uE_unk {c : Cf} {i : Nat} (h : i < c.nU) (h1 : ¬ (0 ≤ c.uP i ∧ c.uP i ≤ (c.nP : Int) - 1)) : uE c i (c.nU - i) = 3 := by
  rw [show c.nU - i = c.nU - (i + 1) + 1 by omega, uE, if_pos h1]
theorem uE_range {c : Cf} {i : Nat} (h : i < c.nU) (h1 : 0 ≤ c.uP i ∧ c.uP i ≤ (c.nP : Int) - 1) (h2 : ¬ ((0 ≤ c.uL i ∧ c.uL i ≤ c.L - 1) ∧ (0 ≤ c.uD i ∧ c.uD i ≤ 16777215))) : uE c i (c.nU - i) = 1 := by
  rw [show c.nU - i = c.nU - (i + 1) + 1 by omega, uE, if_neg (by omega), if_pos h2]
theorem sub_rest {c : Cf} (h : ¬ (64 : Int) < c.nU) : subE c = uE c 0 c.nU := by
  unfold subE; rw [if_neg (by omega)]
theorem sub_unk {c : Cf} {i : Int} (h : ¬ (64 : Int) < c.nU) (hi : 0 ≤ i ∧ i ≤ (c.nU : Int) ∧ uE c i.toNat (c.nU - i.toNat) = uE c 0 c.nU) (hlt : i < c.nU) (h1 : ¬ (0 ≤ c.uP i.toNat ∧ c.uP i.toNat ≤ (c.nP : Int) - 1)) : 3 = subE c := by
  rw [sub_rest h, ← hi.2.2, uE_unk (by omega) h1]
theorem sub_range {c : Cf} {i : Int} (h : ¬ (64 : Int) < c.nU) (hi : 0 ≤ i ∧ i ≤ (c.nU : Int) ∧ uE c i.toNat (c.nU - i.toNat) = uE c 0 c.nU) (hlt : i < c.nU) (h1 : 0 ≤ c.uP i.toNat ∧ c.uP i.toNat ≤ (c.nP : Int) - 1) (h2 : ¬ ((0 ≤ c.uL i.toNat ∧ c.uL i.toNat ≤ c.L - 1) ∧ (0 ≤ c.uD i.toNat ∧ c.uD i.toNat ≤ 16777215))) : 1 = subE c := by
  rw [sub_rest h, ← hi.2.2, uE_range (by omega) h1 h2]
theorem sub_next {c : Cf} {i : Int} (h : ¬ (64 : Int) < c.nU) (hi : 0 ≤ i ∧ i ≤ (c.nU : Int) ∧ uE c i.toNat (c.nU - i.toNat) = uE c 0 c.nU) (hlt : i < c.nU) (h1 : 0 ≤ c.uP i.toNat ∧ c.uP i.toNat ≤ (c.nP : Int) - 1) (h2 : (0 ≤ c.uL i.toNat ∧ c.uL i.toNat ≤ c.L - 1) ∧ (0 ≤ c.uD i.toNat ∧ c.uD i.toNat ≤ 16777215)) :
    uE c (IntKind.i64.wrap (i + 1)).toNat (c.nU - (IntKind.i64.wrap (i + 1)).toNat) = uE c 0 c.nU := by
  rw [w64 (by omega), ← hi.2.2, uE_step (i := i.toNat) (by omega) h1 h2, show (i + 1).toNat = i.toNat + 1 by omega]
theorem sub_end {c : Cf} {i : Int} (h : ¬ (64 : Int) < c.nU) (hi : 0 ≤ i ∧ i ≤ (c.nU : Int) ∧ uE c i.toNat (c.nU - i.toNat) = uE c 0 c.nU) (hn : ¬ i < c.nU) : 0 = subE c := by
  rw [sub_rest h, ← hi.2.2, show i.toNat = c.nU by omega, Nat.sub_self]; rfl
theorem vh102 {c : Cf} (hN : okN c) (hP : (1 : Int) ≤ c.nP ∧ (c.nP : Int) ≤ 32) : VHolds (ver102 c) := by
  constructor
  rw [ver102_eq]
  obtain ⟨_, hNL, _⟩ := hN
  simp only [V.holds, subI, Int.ofNat_eq_natCast, decide_eq_true_eq, decide_eq_false_iff_not, Bool.not_eq_true', Bool.not_eq_false', beq_iff_eq, beq_eq_false_iff_ne, ne_eq, true_and, and_true, forall_const, true_implies, implies_true, Nat.zero_add, Nat.sub_zero, Nat.lt_add_one, Nat.zero_lt_one, Int.natCast_zero, Int.natCast_one, Int.cast_ofNat_Int, gt_iff_lt, and_self, eq_self]
  rw [show IntKind.i64.wrap ((c.nP : Int) - 1) = (c.nP : Int) - 1 from w64 (by omega), show IntKind.i64.wrap (c.L - 1) = c.L - 1 from w64 (by omega)]
  repeat' first | exact True.intro | apply And.intro | intro _
  all_goals try omega
  all_goals try (unfold subE; rw [if_pos (by omega)]; done)
  all_goals try (exact sub_unk (by assumption) (by assumption) (by assumption) (by assumption))
  all_goals try (exact sub_range (by assumption) (by assumption) (by assumption) (by assumption) (by omega))
  all_goals try (exact sub_next (by assumption) (by assumption) (by assumption) (by assumption) (by omega))
  all_goals try (exact sub_end (by assumption) (by assumption) (by assumption))
  all_goals try (rw [w64 (by omega)]; omega)
end Go.Proofs.Ytjpnpaboahbncaa.Vc


/- Check, of the program and of the reference, for any configuration. -/
set_option linter.unusedVariables false
set_option maxRecDepth 100000
namespace Go.Proofs.Ytjpnpaboahbncaa.Vc
open Go Go.RowKit Sx Cn Dc Ck
noncomputable section
/-- A contract of a function of a configuration: plain facts decided. -/
def conCfP (post : Cf → Out (SV × Hp)) : List SV → Hp → Out (SV × Hp) := fun args H => match args with
  | [.a [x0, x1, x2, x3, x4, x5, x6, x7, x8, .slc kr _ _ _ nP rc, .slc ku _ _ _ nU cu]] => match numC x0, numC x1, numC x2, numC x3, numC x4, numC x5, numC x6, numC x7, numC x8 with
    | some W, some L, some C, some T, some D, some h, some B, some A, some Q => fN kr fun kr => fN ku fun ku => cfBlk H.h kr ku fun kF ln cp o a b f g k => useP [kr, ku, kF] 3
                [argC ⟨W, L, C, T, D, h, B, A, Q, nP.v, rc.v, nU.v, cu.v, fun e => ln 0 e, fun e => cp 0 e, o, a, b, fun e => f 0 e, fun e => g 0 e, fun e => k 0 e⟩]
                (hC ⟨W, L, C, T, D, h, B, A, Q, nP.v, rc.v, nU.v, cu.v, fun e => ln 0 e, fun e => cp 0 e, o, a, b, fun e => f 0 e, fun e => g 0 e, fun e => k 0 e⟩)
                (post ⟨W, L, C, T, D, h, B, A, Q, nP.v, rc.v, nU.v, cu.v, fun e => ln 0 e, fun e => cp 0 e, o, a, b, fun e => f 0 e, fun e => g 0 e, fun e => k 0 e⟩) args H
    | _, _, _, _, _, _, _, _, _ => .bad 434
  | _ => .bad 435
theorem conCfP_ok {f : FuncId} {post : Cf → Out (SV × Hp)} (h : ∀ c, LocalOK P f [argC c] (hC c) 3 (post c)) : ContractOK P f (conCfP post) := contract_of_useP fun args H => by
  unfold conCfP
  simp only [fN_eq]
  repeat' split
  all_goals first | exact .inl ⟨_, rfl⟩ | exact (cfBlk_ok _ _ _ _).elim .inl fun ⟨_, _, _, _, _, _, _, _, _, e⟩ => .inr ⟨_, _, _, _, _, e, h _⟩
def conProg : List SV → Hp → Out (SV × Hp) := conCfP fun c => retC (progE c) c (okN c)
def conSub : List SV → Hp → Out (SV × Hp) := conCfP fun c => retC (subE c) c (okN c ∧ (1 : Int) ≤ c.nP ∧ (c.nP : Int) ≤ 32)
theorem conProg_ok : ContractOK P 101 conProg := conCfP_ok fun c => local_of_ver0 con7_ok fun hN => vh101 hN
theorem conSub_ok : ContractOK P 102 conSub := conCfP_ok fun c => local_of_ver0 con7_ok fun h => vh102 h.1 h.2
def conC1 : Con := Con.add 101 conProg (Con.add 102 conSub con7)
theorem conC1_ok : ConOK P conC1 := .add conProg_ok (.add conSub_ok con7_ok)
def in93Tree (v lo hi : Int) : Out (SV × Hp) := execF P con0 noAnn 3 2 93 [iv v, iv lo, iv hi] emp
theorem in93_eq (v lo hi : Int) : in93Tree v lo hi =
  Out.br (decide (v ≥ lo))
    (Out.leaf (SV.c (SC.bv (decide (v ≤ hi))), { h := [], nxt := 0, D := fun x => True }))
    (Out.leaf (SV.c (SC.kb false), { h := [], nxt := 0, D := fun x => True })) := by kernel_rfl
theorem pure93 : PureC P 93 [.i64, .i64, .i64] postIn := pureC_of (execF_ok0 (P := P) (con := con0) (u := 3) ConOK.nil 2) fun l hl K hK => by
  obtain ⟨v, lo, hi, rfl⟩ := three_args hl
  have hK : K (.c (.bv (decide (lo ≤ v ∧ v ≤ hi)))) := hK
  change (in93Tree v lo hi).holds _
  rw [in93_eq]
  simp only [Out.holds]
  refine ⟨fun h => ?_, fun h => ?_⟩
  · have h := of_decide_eq_true h
    refine ⟨rfl, .c (.bv (decide (lo ≤ v ∧ v ≤ hi))), ?_, hK⟩
    show decide (v ≤ hi) = decide (lo ≤ v ∧ v ≤ hi)
    have h' : lo ≤ v := h
    simp [h']
  · have h := of_decide_eq_false h
    refine ⟨rfl, .c (.bv (decide (lo ≤ v ∧ v ≤ hi))), ?_, hK⟩
    show false = decide (lo ≤ v ∧ v ≤ hi)
    have h' : ¬ lo ≤ v := h
    simp [h']
def conC2 : Con := Con.add 93 (conP [.i64, .i64, .i64] postIn) con7
theorem conC2_ok : ConOK P conC2 := .add (conP_ok pure93) con7_ok
section
variable (c : Cf)
def ver58 : V := verF P conC1 3 3 58 [] .nil [argC c] ⟨hC c, 3, fun _ => True⟩ (fin0 (errE c))
def av44 (t1 t2 t3 : Nat) : AV := .loop Int [] (fun _ => some (cntL t1 (progI c) c.nP)) (.loop Int [] (fun s => (intT t1 s).map fun i => cntL t2 (instrI c i) (c.lenP i.toNat)) .nil .nil) (.loop Int [] (fun _ => some (cntL t3 (subI c) c.nU)) .nil .nil)
def ver44 : V := verF P conC2 3 3 44 [] (av44 c 3 4 5) [argC c] ⟨hC c, 3, fun _ => True⟩ (fin0 (errE c))
end
end
end Go.Proofs.Ytjpnpaboahbncaa.Vc


/- Check: the conditions, printed by program. -/
set_option linter.unusedVariables false
set_option maxRecDepth 100000
namespace Go.Proofs.Ytjpnpaboahbncaa.Vc
open Go Go.RowKit Sx Cn Dc Ck

theorem ver58_eq (c : Cf) : ver58 c =
  V.br (decide (Int.ofNat 1 ≤ c.W ∧ c.W ≤ Int.ofNat 16))
    (V.br (decide (Int.ofNat 1 ≤ c.L ∧ c.L ≤ Int.ofNat 64))
    (V.br (decide (Int.ofNat 1 ≤ c.C ∧ c.C ≤ min (Int.ofNat 8) c.L))
    (V.br (decide (Int.ofNat 1 ≤ c.T ∧ c.T ≤ Int.ofNat 256))
    (V.br (decide (Int.ofNat 1 ≤ c.D ∧ c.D ≤ Int.ofNat 64))
    (V.br (decide (Int.ofNat 1 ≤ c.H ∧ c.H ≤ Int.ofNat 64))
    (V.br (decide (Int.ofNat 1 ≤ c.B ∧ c.B ≤ c.D))
    (V.br (decide (Int.ofNat 0 ≤ c.A ∧ c.A ≤ Int.ofNat 65536))
    (V.br (!decide (Int.ofNat 1 ≤ c.P ∧ c.P ≤ Int.ofNat 65536))
    (V.need True
    (V.need (Int.ofNat 1 = errE c) V.ok))
    (V.need (c.W = c.W)
    (V.need (c.L = c.L)
    (V.need (c.C = c.C)
    (V.need (c.T = c.T)
    (V.need (c.D = c.D)
    (V.need (c.H = c.H)
    (V.need (c.B = c.B)
    (V.need (c.A = c.A)
    (V.need (c.P = c.P)
    (V.need (c.nP = c.nP)
    (V.need (c.rc = c.rc)
    (V.need (c.nU = c.nU)
    (V.need (c.cu = c.cu)
    (V.need (1 ≤ 1)
    (V.need (∀ (i : Nat), i < 1 → c.nP ≤ c.nP)
    (V.need (∀ (i e : Nat), i < 1 ∧ e < c.nP → e = e)
    (V.need (∀ (i e : Nat), i < 1 ∧ e < c.nP → c.lenP e = c.lenP e)
    (V.need (∀ (i e : Nat), i < 1 ∧ e < c.nP → c.FC e = c.FC e)
    (V.need (1 ≤ 1)
    (V.need (∀ (i : Nat), i < 1 → c.nU ≤ c.nU)
    (V.need (∀ (i e : Nat), i < 1 ∧ e < c.nU → c.uP e = c.uP e)
    (V.need (∀ (i e : Nat), i < 1 ∧ e < c.nU → c.uL e = c.uL e)
    (V.need (∀ (i e : Nat), i < 1 ∧ e < c.nU → c.uD e = c.uD e)
    (V.need (c.nP ≤ c.nP)
    (V.need (∀ (i : Nat), i < c.nP → c.lenP i ≤ c.lenP i)
    (V.need (∀ (i e : Nat), i < c.nP ∧ e < c.lenP i → c.iO i e = c.iO i e)
    (V.need (∀ (i e : Nat), i < c.nP ∧ e < c.lenP i → c.iA i e = c.iA i e)
    (V.need (∀ (i e : Nat), i < c.nP ∧ e < c.lenP i → c.iB i e = c.iB i e)
    (V.need (okN { W := c.W, L := c.L, C := c.C, T := c.T, D := c.D, H := c.H, B := c.B, A := c.A, P := c.P, nP := c.nP, rc := c.rc, nU := c.nU, cu := c.cu, lenP := fun e => c.lenP e, FC := fun e => c.FC e, iO := fun i e => c.iO i e, iA := fun i e => c.iA i e, iB := fun i e => c.iB i e, uP := fun e => c.uP e, uL := fun e => c.uL e, uD := fun e => c.uD e })
    (V.br (progE { W := c.W, L := c.L, C := c.C, T := c.T, D := c.D, H := c.H, B := c.B, A := c.A, P := c.P, nP := c.nP, rc := c.rc, nU := c.nU, cu := c.cu, lenP := fun e => c.lenP e, FC := fun e => c.FC e, iO := fun i e => c.iO i e, iA := fun i e => c.iA i e, iB := fun i e => c.iB i e, uP := fun e => c.uP e, uL := fun e => c.uL e, uD := fun e => c.uD e } != Int.ofNat 0)
    (V.need True
    (V.need (progE { W := c.W, L := c.L, C := c.C, T := c.T, D := c.D, H := c.H, B := c.B, A := c.A, P := c.P, nP := c.nP, rc := c.rc, nU := c.nU, cu := c.cu, lenP := fun e => c.lenP e, FC := fun e => c.FC e, iO := fun i e => c.iO i e, iA := fun i e => c.iA i e, iB := fun i e => c.iB i e, uP := fun e => c.uP e, uL := fun e => c.uL e, uD := fun e => c.uD e } = errE c) V.ok))
    (V.need (c.W = c.W)
    (V.need (c.L = c.L)
    (V.need (c.C = c.C)
    (V.need (c.T = c.T)
    (V.need (c.D = c.D)
    (V.need (c.H = c.H)
    (V.need (c.B = c.B)
    (V.need (c.A = c.A)
    (V.need (c.P = c.P)
    (V.need (c.nP = c.nP)
    (V.need (c.rc = c.rc)
    (V.need (c.nU = c.nU)
    (V.need (c.cu = c.cu)
    (V.need (1 ≤ 1)
    (V.need (∀ (i : Nat), i < 1 → c.nP ≤ c.nP)
    (V.need (∀ (i e : Nat), i < 1 ∧ e < c.nP → e = e)
    (V.need (∀ (i e : Nat), i < 1 ∧ e < c.nP → c.lenP e = c.lenP e)
    (V.need (∀ (i e : Nat), i < 1 ∧ e < c.nP → c.FC e = c.FC e)
    (V.need (1 ≤ 1)
    (V.need (∀ (i : Nat), i < 1 → c.nU ≤ c.nU)
    (V.need (∀ (i e : Nat), i < 1 ∧ e < c.nU → c.uP e = c.uP e)
    (V.need (∀ (i e : Nat), i < 1 ∧ e < c.nU → c.uL e = c.uL e)
    (V.need (∀ (i e : Nat), i < 1 ∧ e < c.nU → c.uD e = c.uD e)
    (V.need (c.nP ≤ c.nP)
    (V.need (∀ (i : Nat), i < c.nP → c.lenP i ≤ c.lenP i)
    (V.need (∀ (i e : Nat), i < c.nP ∧ e < c.lenP i → c.iO i e = c.iO i e)
    (V.need (∀ (i e : Nat), i < c.nP ∧ e < c.lenP i → c.iA i e = c.iA i e)
    (V.need (∀ (i e : Nat), i < c.nP ∧ e < c.lenP i → c.iB i e = c.iB i e)
    (V.need (okN { W := c.W, L := c.L, C := c.C, T := c.T, D := c.D, H := c.H, B := c.B, A := c.A, P := c.P, nP := c.nP, rc := c.rc, nU := c.nU, cu := c.cu, lenP := fun e => c.lenP e, FC := fun e => c.FC e, iO := fun i e => c.iO i e, iA := fun i e => c.iA i e, iB := fun i e => c.iB i e, uP := fun e => c.uP e, uL := fun e => c.uL e, uD := fun e => c.uD e } ∧ Int.ofNat 1 ≤ (↑c.nP : Int) ∧ (↑c.nP : Int) ≤ Int.ofNat 32)
    (V.need True
    (V.need (subE { W := c.W, L := c.L, C := c.C, T := c.T, D := c.D, H := c.H, B := c.B, A := c.A, P := c.P, nP := c.nP, rc := c.rc, nU := c.nU, cu := c.cu, lenP := fun e => c.lenP e, FC := fun e => c.FC e, iO := fun i e => c.iO i e, iA := fun i e => c.iA i e, iB := fun i e => c.iB i e, uP := fun e => c.uP e, uL := fun e => c.uL e, uD := fun e => c.uD e } = errE c) V.ok))))))))))))))))))))))))))))))))))))))))))))))))))))))))))))))
    (V.need True
    (V.need (Int.ofNat 1 = errE c) V.ok)))
    (V.need True
    (V.need (Int.ofNat 1 = errE c) V.ok)))
    (V.need True
    (V.need (Int.ofNat 1 = errE c) V.ok)))
    (V.need True
    (V.need (Int.ofNat 1 = errE c) V.ok)))
    (V.need True
    (V.need (Int.ofNat 1 = errE c) V.ok)))
    (V.need True
    (V.need (Int.ofNat 1 = errE c) V.ok)))
    (V.need True
    (V.need (Int.ofNat 1 = errE c) V.ok)))
    (V.need True
    (V.need (Int.ofNat 1 = errE c) V.ok)) := by kernel_rfl

theorem ver44_eq (c : Cf) : ver44 c =
  V.br (decide (Int.ofNat 1 ≤ c.W ∧ c.W ≤ Int.ofNat 16))
    (V.br (decide (Int.ofNat 1 ≤ c.L ∧ c.L ≤ Int.ofNat 64))
    (V.br (decide (Int.ofNat 1 ≤ c.C ∧ c.C ≤ min (Int.ofNat 8) c.L))
    (V.br (decide (Int.ofNat 1 ≤ c.T ∧ c.T ≤ Int.ofNat 256))
    (V.br (decide (Int.ofNat 1 ≤ c.D ∧ c.D ≤ Int.ofNat 64))
    (V.br (decide (Int.ofNat 1 ≤ c.H ∧ c.H ≤ Int.ofNat 64))
    (V.br (decide (Int.ofNat 1 ≤ c.B ∧ c.B ≤ c.D))
    (V.br (decide (Int.ofNat 0 ≤ c.A ∧ c.A ≤ Int.ofNat 65536))
    (V.br (!decide (Int.ofNat 1 ≤ c.P ∧ c.P ≤ Int.ofNat 65536))
    (V.need True
    (V.need (Int.ofNat 1 = errE c) V.ok))
    (V.br (!decide (Int.ofNat 1 ≤ (↑c.nP : Int) ∧ (↑c.nP : Int) ≤ Int.ofNat 32))
    (V.need True
    (V.need (Int.ofNat 2 = errE c) V.ok))
    (V.need (Int.ofNat 0 ≤ Int.ofNat 0 ∧ Int.ofNat 0 ≤ (↑c.nP : Int) ∧ pE c 0 (c.nP - 0) = pE c 0 c.nP)
    (V.need (Int.ofNat 0 = Int.ofNat 0)
    (V.any Int (progI c) fun x => V.need (0 < 1 ∧ 0 < 1)
    (V.need (0 < 1 ∧ 0 < 1)
    (V.br (decide (x < (↑c.nP : Int)))
    (V.need (0 < 1 ∧ 0 < 1)
    (V.need (0 < 1 ∧ 0 < 1)
    (V.need (Int.ofNat 0 ≤ x ∧ x < (↑c.nP : Int))
    (V.need (0 < 1 ∧ 0 + x.toNat < c.nP)
    (V.need (0 < 1 ∧ 0 + x.toNat < c.nP)
    (V.br (decide ((↑(c.lenP (0 + x.toNat)) : Int) > Int.ofNat 32))
    (V.need True
    (V.need (Int.ofNat 2 = errE c) V.ok))
    (V.need (Int.ofNat 0 ≤ Int.ofNat 0 ∧ Int.ofNat 0 ≤ (↑(c.lenP x.toNat) : Int) ∧ ∀ (e : Nat), (↑e : Int) < Int.ofNat 0 → okI c x.toNat e)
    (V.need (Int.ofNat 0 = Int.ofNat 0)
    (V.any Int (instrI c x) fun x_1 => V.need (0 < 1 ∧ 0 < 1)
    (V.need (0 < 1 ∧ 0 < 1)
    (V.need (Int.ofNat 0 ≤ x ∧ x < (↑c.nP : Int))
    (V.need (0 < 1 ∧ 0 + x.toNat < c.nP)
    (V.need (0 < 1 ∧ 0 + x.toNat < c.nP)
    (V.br (decide (x_1 < (↑(c.lenP (0 + x.toNat)) : Int)))
    (V.need (0 < 1 ∧ 0 < 1)
    (V.need (0 < 1 ∧ 0 < 1)
    (V.need (0 < 1 ∧ 0 < 1)
    (V.need (0 < 1 ∧ 0 < 1)
    (V.need (0 < 1 ∧ 0 < 1)
    (V.need (0 < 1 ∧ 0 < 1)
    (V.need (0 < 1 ∧ 0 < 1)
    (V.need (0 < 1 ∧ 0 < 1)
    (V.need (0 < 1 ∧ 0 < 1)
    (V.need (0 < 1 ∧ 0 < 1)
    (V.need (0 < 1 ∧ 0 < 1)
    (V.need (0 < 1 ∧ 0 < 1)
    (V.need (0 < 1 ∧ 0 < 1)
    (V.need (Int.ofNat 0 ≤ x ∧ x < (↑c.nP : Int))
    (V.need (0 < 1 ∧ 0 + x.toNat < c.nP)
    (V.need (0 < 1 ∧ 0 + x.toNat < c.nP)
    (V.need (Int.ofNat 0 ≤ x_1 ∧ x_1 < (↑(c.lenP (0 + x.toNat)) : Int))
    (V.need (0 + x.toNat < c.nP ∧ 0 + x_1.toNat < c.lenP (0 + x.toNat))
    (V.need (0 + x.toNat < c.nP ∧ 0 + x_1.toNat < c.lenP (0 + x.toNat))
    (V.need (0 + x.toNat < c.nP ∧ 0 + x_1.toNat < c.lenP (0 + x.toNat))
    (V.need (0 + x.toNat < c.nP ∧ 0 + x_1.toNat < c.lenP (0 + x.toNat))
    (V.br (c.iO (0 + x.toNat) (0 + x_1.toNat) == Int.ofNat 0)
    (V.br (decide (Int.ofNat 1 ≤ c.iA (0 + x.toNat) (0 + x_1.toNat) ∧ c.iA (0 + x.toNat) (0 + x_1.toNat) ≤ Int.ofNat 64))
    (V.br (!c.iB (0 + x.toNat) (0 + x_1.toNat) == Int.ofNat 0)
    (V.need True
    (V.need (Int.ofNat 1 = errE c) V.ok))
    (V.need (Int.ofNat 0 ≤ IntKind.i64.wrap (x_1 + Int.ofNat 1) ∧ IntKind.i64.wrap (x_1 + Int.ofNat 1) ≤ (↑(c.lenP x.toNat) : Int) ∧ ∀ (e : Nat), (↑e : Int) < IntKind.i64.wrap (x_1 + Int.ofNat 1) → okI c x.toNat e)
    (V.need (c.lenP x.toNat - (IntKind.i64.wrap (x_1 + Int.ofNat 1)).toNat < c.lenP x.toNat - x_1.toNat)
    (V.need (IntKind.i64.wrap (x_1 + Int.ofNat 1) = IntKind.i64.wrap (x_1 + Int.ofNat 1)) V.ok))))
    (V.need True
    (V.need (Int.ofNat 1 = errE c) V.ok)))
    (V.br (c.iO (0 + x.toNat) (0 + x_1.toNat) == Int.ofNat 1)
    (V.br (decide (Int.ofNat 0 ≤ c.iA (0 + x.toNat) (0 + x_1.toNat) ∧ c.iA (0 + x.toNat) (0 + x_1.toNat) ≤ IntKind.i64.wrap ((↑c.nP : Int) - Int.ofNat 1)))
    (V.br (!decide (Int.ofNat 0 ≤ c.iB (0 + x.toNat) (0 + x_1.toNat) ∧ c.iB (0 + x.toNat) (0 + x_1.toNat) ≤ IntKind.i64.wrap (c.L - Int.ofNat 1)))
    (V.need True
    (V.need (Int.ofNat 1 = errE c) V.ok))
    (V.need (Int.ofNat 0 ≤ IntKind.i64.wrap (x_1 + Int.ofNat 1) ∧ IntKind.i64.wrap (x_1 + Int.ofNat 1) ≤ (↑(c.lenP x.toNat) : Int) ∧ ∀ (e : Nat), (↑e : Int) < IntKind.i64.wrap (x_1 + Int.ofNat 1) → okI c x.toNat e)
    (V.need (c.lenP x.toNat - (IntKind.i64.wrap (x_1 + Int.ofNat 1)).toNat < c.lenP x.toNat - x_1.toNat)
    (V.need (IntKind.i64.wrap (x_1 + Int.ofNat 1) = IntKind.i64.wrap (x_1 + Int.ofNat 1)) V.ok))))
    (V.need True
    (V.need (Int.ofNat 1 = errE c) V.ok)))
    (V.br (c.iO (0 + x.toNat) (0 + x_1.toNat) == Int.ofNat 2)
    (V.br (decide (Int.ofNat 0 ≤ c.iA (0 + x.toNat) (0 + x_1.toNat) ∧ c.iA (0 + x.toNat) (0 + x_1.toNat) ≤ Int.ofNat 31))
    (V.br (!c.iB (0 + x.toNat) (0 + x_1.toNat) == Int.ofNat 0)
    (V.need True
    (V.need (Int.ofNat 1 = errE c) V.ok))
    (V.need (Int.ofNat 0 ≤ IntKind.i64.wrap (x_1 + Int.ofNat 1) ∧ IntKind.i64.wrap (x_1 + Int.ofNat 1) ≤ (↑(c.lenP x.toNat) : Int) ∧ ∀ (e : Nat), (↑e : Int) < IntKind.i64.wrap (x_1 + Int.ofNat 1) → okI c x.toNat e)
    (V.need (c.lenP x.toNat - (IntKind.i64.wrap (x_1 + Int.ofNat 1)).toNat < c.lenP x.toNat - x_1.toNat)
    (V.need (IntKind.i64.wrap (x_1 + Int.ofNat 1) = IntKind.i64.wrap (x_1 + Int.ofNat 1)) V.ok))))
    (V.need True
    (V.need (Int.ofNat 1 = errE c) V.ok)))
    (V.need True
    (V.need (Int.ofNat 1 = errE c) V.ok))))))))))))))))))))))))))
    (V.need (Int.ofNat 0 ≤ IntKind.i64.wrap (x + Int.ofNat 1) ∧ IntKind.i64.wrap (x + Int.ofNat 1) ≤ (↑c.nP : Int) ∧ pE c (IntKind.i64.wrap (x + Int.ofNat 1)).toNat (c.nP - (IntKind.i64.wrap (x + Int.ofNat 1)).toNat) = pE c 0 c.nP)
    (V.need (c.nP - (IntKind.i64.wrap (x + Int.ofNat 1)).toNat < c.nP - x.toNat)
    (V.need (IntKind.i64.wrap (x + Int.ofNat 1) = IntKind.i64.wrap (x + Int.ofNat 1)) V.ok)))))))))))))))))
    (V.br (decide ((↑c.nU : Int) > Int.ofNat 64))
    (V.need True
    (V.need (Int.ofNat 2 = errE c) V.ok))
    (V.need (Int.ofNat 0 ≤ Int.ofNat 0 ∧ Int.ofNat 0 ≤ (↑c.nU : Int) ∧ uE c 0 (c.nU - 0) = uE c 0 c.nU)
    (V.need (Int.ofNat 0 = Int.ofNat 0)
    (V.any Int (subI c) fun x => V.need (0 < 1 ∧ 0 < 1)
    (V.need (0 < 1 ∧ 0 < 1)
    (V.br (decide (x < (↑c.nU : Int)))
    (V.need (0 < 1 ∧ 0 < 1)
    (V.need (0 < 1 ∧ 0 < 1)
    (V.need (Int.ofNat 0 ≤ x ∧ x < (↑c.nU : Int))
    (V.need (0 < 1 ∧ 0 + x.toNat < c.nU)
    (V.need (0 < 1 ∧ 0 + x.toNat < c.nU)
    (V.need (0 < 1 ∧ 0 + x.toNat < c.nU)
    (V.need (0 < 1 ∧ 0 + x.toNat < c.nU)
    (V.need (0 < 1 ∧ 0 < 1)
    (V.need (0 < 1 ∧ 0 < 1)
    (V.br (!decide (Int.ofNat 0 ≤ c.uP (0 + x.toNat) ∧ c.uP (0 + x.toNat) ≤ IntKind.i64.wrap ((↑c.nP : Int) - Int.ofNat 1)))
    (V.need True
    (V.need (Int.ofNat 3 = errE c) V.ok))
    (V.need (0 < 1 ∧ 0 < 1)
    (V.need (0 < 1 ∧ 0 < 1)
    (V.br (!decide (Int.ofNat 0 ≤ c.uL (0 + x.toNat) ∧ c.uL (0 + x.toNat) ≤ IntKind.i64.wrap (c.L - Int.ofNat 1)))
    (V.need True
    (V.need (Int.ofNat 1 = errE c) V.ok))
    (V.br (!decide (Int.ofNat 0 ≤ c.uD (0 + x.toNat) ∧ c.uD (0 + x.toNat) ≤ Int.ofNat 16777215))
    (V.need True
    (V.need (Int.ofNat 1 = errE c) V.ok))
    (V.need (Int.ofNat 0 ≤ IntKind.i64.wrap (x + Int.ofNat 1) ∧ IntKind.i64.wrap (x + Int.ofNat 1) ≤ (↑c.nU : Int) ∧ uE c (IntKind.i64.wrap (x + Int.ofNat 1)).toNat (c.nU - (IntKind.i64.wrap (x + Int.ofNat 1)).toNat) = uE c 0 c.nU)
    (V.need (c.nU - (IntKind.i64.wrap (x + Int.ofNat 1)).toNat < c.nU - x.toNat)
    (V.need (IntKind.i64.wrap (x + Int.ofNat 1) = IntKind.i64.wrap (x + Int.ofNat 1)) V.ok)))))))))))))))))
    (V.need True
    (V.need (Int.ofNat 0 = errE c) V.ok)))))))))))))))
    (V.need True
    (V.need (Int.ofNat 1 = errE c) V.ok)))
    (V.need True
    (V.need (Int.ofNat 1 = errE c) V.ok)))
    (V.need True
    (V.need (Int.ofNat 1 = errE c) V.ok)))
    (V.need True
    (V.need (Int.ofNat 1 = errE c) V.ok)))
    (V.need True
    (V.need (Int.ofNat 1 = errE c) V.ok)))
    (V.need True
    (V.need (Int.ofNat 1 = errE c) V.ok)))
    (V.need True
    (V.need (Int.ofNat 1 = errE c) V.ok)))
    (V.need True
    (V.need (Int.ofNat 1 = errE c) V.ok)) := by kernel_rfl


end Go.Proofs.Ytjpnpaboahbncaa.Vc


/- Check, of the program and of the reference: the contracts. -/
set_option linter.unusedVariables false
set_option linter.unusedSimpArgs false
set_option maxRecDepth 100000
namespace Go.Proofs.Ytjpnpaboahbncaa.Vc
open Go Go.RowKit Sx Cn Dc Ck

theorem err_num {c : Cf} (h : ¬ okN c) : 1 = errE c := by unfold errE; rw [if_pos h]
theorem err_prog {c : Cf} (h : okN c) (hp : ¬ progE c = 0) : progE c = errE c := by unfold errE; rw [if_neg (fun g => g h), if_pos hp]
theorem err_sub {c : Cf} (h : okN c) (hp : progE c = 0) : subE c = errE c := by unfold errE; rw [if_neg (fun g => g h), if_neg (fun g => g hp)]
theorem prog_zero {c : Cf} (h : progE c = 0) : (1 : Int) ≤ c.nP ∧ (c.nP : Int) ≤ 32 := by
  unfold progE at h
  split at h
  · cases h
  · omega
theorem cf_eta (c : Cf) : (⟨c.W, c.L, c.C, c.T, c.D, c.H, c.B, c.A, c.P, c.nP, c.rc, c.nU, c.cu, fun e => c.lenP e, fun e => c.FC e, fun i e => c.iO i e, fun i e => c.iA i e, fun i e => c.iB i e, fun e => c.uP e, fun e => c.uL e, fun e => c.uD e⟩ : Cf) = c := rfl
theorem vh58 (c : Cf) : VHolds (ver58 c) := by
  constructor
  rw [ver58_eq]
  simp only [V.holds, Int.ofNat_eq_natCast, decide_eq_true_eq, decide_eq_false_iff_not, Bool.not_eq_true', Bool.not_eq_false', bne_iff_ne, bne_eq_false_iff_eq, beq_iff_eq, beq_eq_false_iff_ne, ne_eq, true_and, and_true, forall_const, true_implies, implies_true, Nat.zero_add, Nat.sub_zero, Nat.lt_add_one, Nat.zero_lt_one, Int.natCast_zero, Int.natCast_one, Int.cast_ofNat_Int, gt_iff_lt, and_self, eq_self, Nat.le_refl, cf_eta]
  repeat' first | exact True.intro | with_reducible apply And.intro | intro _
  all_goals first
    | (exact err_num (by unfold okN; omega))
    | (unfold okN; omega)
    | (exact err_prog (by unfold okN; omega) (by assumption))
    | (exact err_sub (by unfold okN; omega) (by assumption))
    | (exact (prog_zero (by assumption)).1)
    | (exact (prog_zero (by assumption)).2)
    | exact ⟨by unfold okN; omega, prog_zero (by assumption)⟩
theorem errP {c : Cf} {n : Int} (h : okN c) (hp : n = progE c) (hn : n ≠ 0) : n = errE c := by rw [hp]; exact err_prog h (by omega)
theorem errU {c : Cf} {n : Int} (h : okN c) (hp : 0 = progE c) (hs : n = subE c) : n = errE c := by rw [hs]; exact err_sub h hp.symm
theorem prog_cnt {c : Cf} (h : ¬ ((1 : Int) ≤ c.nP ∧ (c.nP : Int) ≤ 32)) : 2 = progE c := by unfold progE; rw [if_pos (by omega)]
theorem sub_cnt {c : Cf} (h : (64 : Int) < c.nU) : 2 = subE c := by unfold subE; rw [if_pos (by omega)]
theorem vh44 (c : Cf) : VHolds (ver44 c) := by
  constructor
  rw [ver44_eq]
  simp only [V.holds, progI, instrI, subI, Int.ofNat_eq_natCast, decide_eq_true_eq, decide_eq_false_iff_not, Bool.not_eq_true', Bool.not_eq_false', bne_iff_ne, bne_eq_false_iff_eq, beq_iff_eq, beq_eq_false_iff_ne, ne_eq, true_and, and_true, forall_const, true_implies, implies_true, Nat.zero_add, Nat.sub_zero, Nat.lt_add_one, Nat.zero_lt_one, Int.natCast_zero, Int.natCast_one, Int.cast_ofNat_Int, gt_iff_lt, and_self, eq_self, Nat.le_refl, cf_eta]
  have w1 : (1 : Int) ≤ c.nP ∧ (c.nP : Int) ≤ 32 → IntKind.i64.wrap ((c.nP : Int) - 1) = (c.nP : Int) - 1 := fun h => w64 (by omega)
  have w2 : 1 ≤ c.L ∧ c.L ≤ 64 → IntKind.i64.wrap (c.L - 1) = c.L - 1 := fun h => w64 (by omega)
  repeat' first | exact True.intro | with_reducible apply And.intro | intro _
  all_goals try omega
  all_goals try (exact err_num (by unfold okN; omega))
  all_goals try (rw [w1 (by assumption)] at *)
  all_goals try (rw [w2 (by assumption)] at *)
  all_goals first
    | (rw [w64 (by omega)]; omega)
    | (exact errP (by unfold okN; omega) (prog_cnt (by assumption)) (by decide))
    | (exact errP (by unfold okN; omega) (prog_len (by assumption) (by assumption) (by assumption) (by assumption)) (by decide))
    | (exact errP (by unfold okN; omega) (prog_bad (by assumption) (by assumption) (by assumption) (by assumption) (by assumption) (by omega) (by unfold okI; omega)) (by decide))
    | (exact instr_next (by assumption) (by assumption) (by assumption) (by assumption) (by unfold okI; omega))
    | (exact prog_next (by assumption) (by assumption) (by assumption) (by assumption) (by assumption) (by assumption))
    | (exact errU (by unfold okN; omega) (prog_end (by assumption) (by assumption) (by assumption)) (sub_cnt (by assumption)))
    | (exact errU (by unfold okN; omega) (prog_end (by assumption) (by assumption) (by assumption)) (sub_unk (by assumption) (by assumption) (by assumption) (by assumption)))
    | (exact errU (by unfold okN; omega) (prog_end (by assumption) (by assumption) (by assumption)) (sub_range (by assumption) (by assumption) (by assumption) (by assumption) (by omega)))
    | (exact sub_next (by assumption) (by assumption) (by assumption) (by assumption) (by omega))
    | (exact errU (by unfold okN; omega) (prog_end (by assumption) (by assumption) (by assumption)) (sub_end (by assumption) (by assumption) (by assumption)))
noncomputable section
def retE : Cf → Out (SV × Hp) := fun c => retC (errE c) c True
def conErr : List SV → Hp → Out (SV × Hp) := conCfP retE
theorem conErr58 : ContractOK P 58 conErr := conCfP_ok fun c => local_of_ver0 conC1_ok fun _ => vh58 c
theorem conErr44 : ContractOK P 44 conErr := conCfP_ok fun c => local_of_ver0 conC2_ok fun _ => vh44 c
end
end Go.Proofs.Ytjpnpaboahbncaa.Vc

