/- Rows of structs of some integers: as arguments; compared, cloned: what is asked. -/
import Derived.Test.YtjpnpaboahbncaaMVi
set_option linter.unusedVariables false
set_option linter.unusedSimpArgs false
set_option linter.unusedVariables false
set_option linter.unusedSimpArgs false
set_option maxRecDepth 100000
namespace Go.Proofs.Ytjpnpaboahbncaa.Vc
open Go Go.RowKit Go.ChangeShapes Go.WideShapes Go.Deep Sx Cn Dc Ck

section
variable {H : Type} {enc : TypeId × Value → H} {P : Program} {w : World}
/-- What is known of a slice of structs of m integers that came in. -/
structure IsRows (m : Nat) (w : World) (a : Option Addr) (len cap : Nat) (g : Nat → Nat → Int) : Prop where
  spot : ∀ x, a = some x → x.spot = none
  le : len ≤ cap
  max : cap ≤ maxLen
  cells : ∀ e, e < len → ∃ x, a = some x ∧ ∀ f, f < m → w.cell? (x.add (e * m + f)) = some (.int .i64 (g f e))
  fits : ∀ e f, e < len → f < m → (Lit.int .i64 (g f e)).wf = true
end
def colsM (m : Nat) (g : Nat → Nat → Int) : List Col := (List.range m).map fun f => .ci .i64 fun _ e => g f e
theorem IsRows.sat {m : Nat} {w : World} {a : Option Addr} {len cap : Nat} {g : Nat → Nat → Int} (h : IsRows m w a len cap g) (hm : 0 < m) {n : Nat → Prop} {ρ : Rho} {key : Nat} (hρ : ρ key 0 = addr0 a) :
    (Blk.view 1 (fun _ => len) (colsM m g)).sat n ρ key w ∧ ∀ i, (Blk.view 1 (fun _ => len) (colsM m g)).live i → ∀ y o, ρ key i = some (y, o) → y < w.heap.size := by
  have at' : ∀ e, e < len → ∃ b o, ρ key 0 = some (b, o) ∧ ∀ f, f < m → w.cell? ((adr (b, o)).add (e * m + f)) = some (.int .i64 (g f e)) := by
    intro e he
    obtain ⟨x, rfl, hc⟩ := h.cells e he
    exact ⟨x.block, ⟨x.off, x.spot⟩, hρ, hc⟩
  have hlen : (colsM m g).length = m := by simp [colsM]
  constructor
  · intro i hi e he
    have : i = 0 := by omega
    subst this
    obtain ⟨b, o, h1, h2⟩ := at' e he
    refine ⟨b, o, h1, fun f col c hf hc => ?_⟩
    have hfm : f < m := by have := (List.getElem?_eq_some_iff.1 hf).1; omega
    simp only [colsM, List.getElem?_map, List.getElem?_range hfm, Option.map_some, Option.some.injEq] at hf
    subst hf
    simp only [Col.get, Option.some.injEq] at hc
    subst hc
    exact ⟨_, by rw [hlen]; exact h2 f hfm, fun _ _ => rfl⟩
  · rintro i ⟨h1, h2⟩ y o hy
    have : i = 0 := by omega
    subst this
    obtain ⟨b, o', h3, h4⟩ := at' 0 h2
    rw [h3] at hy; cases hy
    have := cell_lt (h4 0 hm)
    rwa [add_block] at this
theorem IsRows.val {m : Nat} {w : World} {a : Option Addr} {len cap : Nat} {g : Nat → Nat → Int} (h : IsRows m w a len cap g) {n : Nat → Prop} {ρ : Rho} {key sz : Nat} (hρ : ρ key 0 = addr0 a) (hk : n key) :
    SIs n ρ (.c (.slc key (.k 0) (.k 0) sz (.s len) (.s cap))) (.slice a len cap) := by
  intro ρ' ha
  simp only [SV.den, SC.den, place, NV.v_k, NV.v_s, ha key hk, hρ, Nat.zero_mul]
  congr 1
  cases a with
  | none => rfl
  | some x =>
    have := h.spot x rfl
    cases x
    simp_all [addr0, Addr.add, adr]
/-! ### Events -/
structure R5 where
  n : Nat
  cap : Nat
  f : Nat → Nat → Int
def R5.same (r s : R5) (e : Nat) : Prop := r.f 0 e = s.f 0 e ∧ r.f 1 e = s.f 1 e ∧ r.f 2 e = s.f 2 e ∧ r.f 3 e = s.f 3 e ∧ r.f 4 e = s.f 4 e
def R5.eq (r s : R5) : Prop := r.n = s.n ∧ ∀ e, e < r.n → r.same s e
noncomputable section
open Classical in
def R5.eqB (r s : R5) : Bool := decide (r.eq s)
def cols5 (f : Nat → Nat → Int) : List Col := [.ci .i64 fun _ e => f 0 e, .ci .i64 fun _ e => f 1 e, .ci .i64 fun _ e => f 2 e, .ci .i64 fun _ e => f 3 e, .ci .i64 fun _ e => f 4 e]
def R5.arg (r : R5) (k : Nat) : SV := .c (slK k 5 r.n r.cap)
def R5.blk (r : R5) : Blk := .view 1 (fun _ => r.n) (cols5 r.f)
end
end Go.Proofs.Ytjpnpaboahbncaa.Vc


/- Events compared and cloned: the contracts; MachineEmits: what is said of its loop, the law. -/
set_option linter.unusedVariables false
set_option linter.unusedSimpArgs false
set_option maxRecDepth 100000
namespace Go.Proofs.Ytjpnpaboahbncaa.Vc
open Go Go.RowKit Sx Cn Dc Ck
noncomputable section
def verAwake8 : V := verF P con0 6 10 19 [] .nil [] ⟨[], 0, fun _ => True⟩ ((PS.one 0 (fun _ _ => []) (.c (.kb true)) []).fin 0)
end
end Go.Proofs.Ytjpnpaboahbncaa.Vc


/- MachineEmits: the conditions, printed by program. -/
set_option linter.unusedVariables false
set_option maxRecDepth 100000
namespace Go.Proofs.Ytjpnpaboahbncaa.Vc
open Go Go.RowKit Sx Cn Dc Ck

theorem verAwake8_eq  : verAwake8 =
  V.need (0 < 1 ∧ 0 < 1)
    (V.need (0 < 1 ∧ 0 < 1)
    (V.need (0 < 1 ∧ 0 < 1)
    (V.need (0 < 1 ∧ 0 < 1)
    (V.need (0 < 1 ∧ 0 < 1)
    (V.need (0 < 1 ∧ 0 < 1)
    (V.need (0 < 1)
    (V.need (0 < 1)
    (V.need (0 < 1 ∧ 0 < 1)
    (V.need (0 < 1 ∧ 0 < 1)
    (V.need (0 < 1 ∧ 0 < 1)
    (V.need (0 < 1 ∧ 0 < 1)
    (V.need (0 < 1 ∧ 0 < 1)
    (V.need (0 < 1)
    (V.need (0 < 1)
    (V.need (0 < 1)
    (V.need (0 < 1 ∧ 0 < 1)
    (V.need (0 < 1 ∧ 0 < 1)
    (V.need (0 < 1 ∧ 0 < 1)
    (V.need (0 < 1 ∧ 0 < 1)
    (V.need (0 < 1 ∧ 0 < 1)
    (V.need (0 < 1 ∧ 0 < 1)
    (V.need (0 < 1)
    (V.need (0 < 1)
    (V.need (0 < 1 ∧ 0 < 1)
    (V.need (0 < 1 ∧ 0 < 1)
    (V.need (0 < 1 ∧ 0 < 1)
    (V.need (0 < 1 ∧ 0 < 1)
    (V.need (0 < 1 ∧ 0 < 1)
    (V.need (0 < 1)
    (V.need (0 < 1)
    (V.need (0 < 1)
    (V.need (0 < 1 ∧ 0 < 1)
    (V.need (0 < 1 ∧ 0 < 1)
    (V.need (0 < 1 ∧ 0 < 1)
    (V.need (0 < 1 ∧ 0 < 1)
    (V.need (0 < 1 ∧ 0 < 1)
    (V.need (0 < 1 ∧ 0 < 1)
    (V.need (0 < 1)
    (V.need (0 < 1)
    (V.need (0 < 1 ∧ 0 < 1)
    (V.need (0 < 1 ∧ 0 < 1)
    (V.need (0 < 1 ∧ 0 < 1)
    (V.need (0 < 1 ∧ 0 < 1)
    (V.need (0 < 1 ∧ 0 < 1)
    (V.need (0 < 1)
    (V.need (0 < 1)
    (V.need (0 < 1)
    (V.need (0 < 1 ∧ 0 < 1)
    (V.need (0 < 1 ∧ 0 < 1)
    (V.need (0 < 1 ∧ 0 < 1)
    (V.need (0 < 1 ∧ 0 < 1)
    (V.need (0 < 1 ∧ 0 < 1)
    (V.need (0 < 1 ∧ 0 < 1)
    (V.need (0 < 1)
    (V.need (0 < 1)
    (V.need (0 < 1 ∧ 0 < 1)
    (V.need (0 < 1 ∧ 0 < 1)
    (V.need (0 < 1 ∧ 0 < 1)
    (V.need (0 < 1 ∧ 0 < 1)
    (V.need (0 < 1 ∧ 0 < 1)
    (V.need (0 < 1)
    (V.need (0 < 1)
    (V.need (0 < 1)
    (V.need (0 < 1 ∧ 0 < 1)
    (V.need (0 < 1 ∧ 0 < 1)
    (V.need (0 < 1 ∧ 0 < 1)
    (V.need (0 < 1 ∧ 0 < 1)
    (V.need (0 < 1 ∧ 0 < 1)
    (V.need (0 < 1 ∧ 0 < 1)
    (V.need (0 < 1)
    (V.need (0 < 1)
    (V.need (0 < 1 ∧ 0 < 1)
    (V.need (0 < 1 ∧ 0 < 1)
    (V.need (0 < 1 ∧ 0 < 1)
    (V.need (0 < 1 ∧ 0 < 1)
    (V.need (0 < 1 ∧ 0 < 1)
    (V.need (0 < 1)
    (V.need (0 < 1)
    (V.need (0 < 1)
    (V.need (0 < 1)
    (V.need (0 < 1)
    (V.need True
    (V.need ((true : Bool) = true) V.ok))))))))))))))))))))))))))))))))))))))))))))))))))))))))))))))))))))))))))))))))))) := by kernel_rfl


end Go.Proofs.Ytjpnpaboahbncaa.Vc


/- MachineEmits: the law. -/
set_option linter.unusedVariables false
set_option linter.unusedSimpArgs false
set_option maxRecDepth 100000
namespace Go.Proofs.Ytjpnpaboahbncaa.Vc
open Go Go.RowKit Sx Cn Dc Ck
theorem vhAwake8 (h : True) : VHolds verAwake8 := by
  constructor
  rw [verAwake8_eq]
  simp only [V.holds, Int.ofNat_eq_natCast, decide_eq_true_eq, decide_eq_false_iff_not, Bool.not_eq_true', Bool.not_eq_false', bne_iff_ne, bne_eq_false_iff_eq, beq_iff_eq, beq_eq_false_iff_ne, ne_eq, true_and, and_true, forall_const, true_implies, implies_true, Nat.zero_add, Nat.sub_zero, Nat.lt_add_one, Nat.zero_lt_one, Int.natCast_zero, Int.natCast_one, Int.cast_ofNat_Int, gt_iff_lt, and_self, eq_self, Nat.le_refl, if_true]
  repeat' first | exact True.intro | with_reducible apply And.intro | intro _
  all_goals first
    | contradiction
    | omega
    | decide
    | rfl
noncomputable section
def conAwake8 : List SV → Hp → Out (SV × Hp) := fun args H => match args with
  | [] => useP [] 0 [] [] (.need True (PS.one 0 (fun _ _ => []) (.c (.kb true)) []).out) args H
  | _ => .bad 422
theorem conAwake8_ok : ContractOK P 19 conAwake8 := contract_of_useP fun args H => by
  unfold conAwake8
  split
  · exact .inr ⟨_, _, _, _, _, rfl, local_of_ps ConOK.nil vhAwake8⟩
  · exact .inl ⟨_, rfl⟩
end
end Go.Proofs.Ytjpnpaboahbncaa.Vc

