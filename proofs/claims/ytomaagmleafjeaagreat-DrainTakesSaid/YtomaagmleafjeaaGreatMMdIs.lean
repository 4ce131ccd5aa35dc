/- A list of numbers compared with one of a family: the conditions, printed by program. -/
import Derived.Test.YtomaagmleafjeaaGreatMMdIsD
import Derived.Test.YtomaagmleafjeaaGreatMW
import Derived.Test.YtomaagmleafjeaaGreatMMdBr
import Derived.Test.YtomaagmleafjeaaGreatMMdFl
set_option linter.unusedVariables false
set_option linter.unusedSimpArgs false
set_option linter.unusedVariables false
set_option maxRecDepth 100000
namespace Go.Proofs.YtomaagmleafjeaaGreat.Md
open Go Go.RowKit Sx Cn Dc Ck Vc

theorem vIs_eq (n cap i n2 cap2 : Nat) (g : Nat → Int) (G : Nat → Nat → Int) (I : Nat → Prop) (φ : Bool → Prop) : vIs n cap i n2 cap2 g G I φ =
  V.br ((↑n : Int) != (↑n2 : Int))
    (V.need (φ false)
    (nN [qE false] V.ok))
    (V.need (I 0)
    (V.need (Int.ofNat 0 = (↑0 : Int))
    (V.any Nat I fun (x : Nat) => V.br (decide ((↑x : Int) < (↑n : Int)))
    (V.need (Int.ofNat 0 ≤ (↑x : Int) ∧ (↑x : Int) < (↑n : Int))
    (V.need (0 < 1 ∧ 0 + (↑x : Int).toNat < n)
    (V.need (0 < 1 ∧ 0 + (↑x : Int).toNat < n)
    (V.need (Int.ofNat 0 ≤ (↑x : Int) ∧ (↑x : Int) < (↑n2 : Int))
    (V.need (i < i + 1 ∧ 0 + (↑x : Int).toNat < onIs i n2 i)
    (V.need (i < i + 1 ∧ 0 + (↑x : Int).toNat < onIs i n2 i)
    (V.br (g (0 + (↑x : Int).toNat) != G i (0 + (↑x : Int).toNat))
    (V.need (φ false)
    (nN [qE false] V.ok))
    (V.need (I (IntKind.i64.wrap ((↑x : Int) + Int.ofNat 1)).toNat)
    (V.need (n - (IntKind.i64.wrap ((↑x : Int) + Int.ofNat 1)).toNat < n - x)
    (V.need (IntKind.i64.wrap ((↑x : Int) + Int.ofNat 1) = (↑(IntKind.i64.wrap ((↑x : Int) + Int.ofNat 1)).toNat : Int)) V.ok))))))))))
    (V.need (φ true)
    (nN [qE true] V.ok))))) := by kernel_rfl

theorem vIz_eq (i n2 cap2 : Nat) (G : Nat → Nat → Int) (I : Nat → Prop) (φ : Bool → Prop) : vIz i n2 cap2 G I φ =
  V.br (Int.ofNat 0 != (↑n2 : Int))
    (V.need (φ false)
    (nN [qE false] V.ok))
    (V.need (I 0)
    (V.need (Int.ofNat 0 = (↑0 : Int))
    (V.any Nat I fun (x : Nat) => V.br false
    (V.bad 104)
    (V.need (φ true)
    (nN [qE true] V.ok))))) := by kernel_rfl


end Go.Proofs.YtomaagmleafjeaaGreat.Md

/- A list of numbers compared with one of a family: the contract. -/
set_option linter.unusedVariables false
set_option linter.unusedSimpArgs false
set_option maxRecDepth 100000
namespace Go.Proofs.YtomaagmleafjeaaGreat.Md
open Go Go.RowKit Sx Cn Dc Ck Vc
def φIs (n n2 : Nat) (g g2 : Nat → Int) (b : Bool) : Prop := b = true ↔ n = n2 ∧ ∀ j, j < n → g j = g2 j
theorem onIs_e {i n2 : Nat} : onIs i n2 i = n2 := if_pos rfl
theorem vhIs {n cap i n2 cap2 : Nat} {g : Nat → Int} {G : Nat → Nat → Int} (h : n ≤ 100000) : VHolds (vIs n cap i n2 cap2 g G (fun v => v ≤ n ∧ ∀ j, j < v → g j = G i j) (φIs n n2 g (G i))) := by
  constructor
  rw [vIs_eq]
  refine V.brI (fun h => ?_) fun h => ?_
  · have h : n ≠ n2 := fun e => by rw [e] at h; simp at h
    exact V.needI ⟨fun h => (by cases h), fun q => absurd q.1 h⟩ (nN_h rfl V.okI)
  have e : n = n2 := by
    have : (n : Int) = n2 := by simpa using h
    omega
  subst e
  refine V.needI ⟨Nat.zero_le _, fun j h => absurd h (Nat.not_lt_zero _)⟩ (V.needI rfl (V.anyI fun v hv => V.brI (fun h => ?_) fun h => ?_))
  · have hl : v < n := by have := of_decide_eq_true h; omega
    have ei : IntKind.i64.wrap ((v : Int) + Int.ofNat 1) = ((v + 1 : Nat) : Int) := wnat (by omega)
    simp only [ei, Int.toNat_natCast, Nat.zero_add, onIs_e]
    refine V.needI ⟨Int.natCast_nonneg _, by omega⟩ (V.needI ⟨Nat.zero_lt_one, hl⟩ (V.needI ⟨Nat.zero_lt_one, hl⟩ (V.needI ⟨Int.natCast_nonneg _, by omega⟩ (V.needI ⟨Nat.lt_succ_self _, hl⟩ (V.needI ⟨Nat.lt_succ_self _, hl⟩ (V.brI (fun h => ?_) fun h => ?_))))))
    · have h : g v ≠ G i v := by simpa using h
      exact V.needI ⟨fun h => (by cases h), fun q => absurd (q.2 v hl) h⟩ (nN_h rfl V.okI)
    · have h : g v = G i v := by simpa using h
      refine V.needI ⟨by omega, fun j hj => ?_⟩ (V.needI (by omega) (V.needI trivial V.okI))
      by_cases c : j = v
      · rw [c]; exact h
      · exact hv.2 j (by omega)
  · have hl : v = n := by have := of_decide_eq_false h; have := hv.1; omega
    exact V.needI ⟨fun _ => ⟨rfl, by rw [← hl]; exact hv.2⟩, fun _ => rfl⟩ (nN_h rfl V.okI)
theorem vhIz {i n2 cap2 : Nat} {G : Nat → Nat → Int} : VHolds (vIz i n2 cap2 G (fun v => True) (φIs 0 n2 (fun _ => 0) (G i))) := by
  constructor
  rw [vIz_eq]
  refine V.brI (fun h => ?_) fun h => ?_
  · have h : 0 ≠ n2 := fun e => by rw [← e] at h; exact absurd h (by decide)
    exact V.needI ⟨fun h => (by cases h), fun q => absurd q.1 h⟩ (nN_h rfl V.okI)
  have e : n2 = 0 := by
    have : (0 : Int) = n2 := by simpa using h
    omega
  subst e
  exact V.needI trivial (V.needI rfl (V.anyI fun v hv => V.brI (fun h => absurd h (by decide)) fun h => V.needI ⟨fun _ => ⟨rfl, fun j hj => absurd hj (Nat.not_lt_zero _)⟩, fun _ => rfl⟩ (nN_h rfl V.okI)))
noncomputable section
def famG (k : Nat) (h : HL) : Option (Nat → Nat → Int) := match find k h with
  | some (.fam _ _ _ _ [.ci _ G]) => some fun i e => G i e
  | _ => none
def cIs : List SV → Hp → Out (SV × Hp) := fun args H => match args with
  | [.c (.slc k _ _ _ n cap), .c (.slc k2 i _ _ n2 cap2)] => fN k fun k => fN k2 fun k2 => match rowL k H.h, famG k2 H.h with
    | some g, some G => useP [k, k2] 2 [.c (slK 0 1 n.v cap.v), .c (slI 1 i.v n2.v cap2.v)] [(0, .view 1 (fun _ => n.v) [.ci .i64 fun _ e => g e]), (1, .view (i.v + 1) (fun q => onIs i.v n2.v q) [.ci .i64 fun q e => G q e])]
        (.need (n.v ≤ 100000) (.any Bool (φIs n.v n2.v (fun e => g e) (G i.v)) fun b => .leaf (.c (.bv b), ⟨[], 2, fun _ => True⟩))) args H
    | _, _ => .bad 432
  | [.c .nils, .c (.slc k2 i _ _ n2 cap2)] => fN k2 fun k2 => match famG k2 H.h with
    | some G => useP [k2] 1 [.c .nils, .c (slI 0 i.v n2.v cap2.v)] [(0, .view (i.v + 1) (fun q => onIs i.v n2.v q) [.ci .i64 fun q e => G q e])]
        (.need True (.any Bool (φIs 0 n2.v (fun _ => 0) (G i.v)) fun b => .leaf (.c (.bv b), ⟨[], 1, fun _ => True⟩))) args H
    | _ => .bad 432
  | _ => .bad 435
theorem cIs_ok : ContractOK P fIs cIs := contract_of_useP fun args H => by
  unfold cIs
  simp only [fN_eq]
  repeat' split
  all_goals first | exact .inl ⟨_, rfl⟩ | exact .inr ⟨_, _, _, _, _, rfl, local_of_ver ConOK.nil fun h => vhIs h⟩ | exact .inr ⟨_, _, _, _, _, rfl, local_of_ver ConOK.nil fun _ => vhIz⟩
end
end Go.Proofs.YtomaagmleafjeaaGreat.Md
