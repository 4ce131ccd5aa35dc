/- Contracts of functions of integers alone. -/
import Derived.Test.YtjpnpaboahbncaaSxAid
set_option linter.unusedVariables false
set_option linter.unusedSimpArgs false
namespace Go.Proofs.Ytjpnpaboahbncaa.Sx
open Go Go.RowKit

def asIs : List IntKind → List SV → Option (List Int)
  | [], [] => some []
  | k :: ks, x :: xs => match asI x, asIs ks xs with
    | some r, some l => bif sameKind k r.2.1 then some (r.2.2 :: l) else none
    | _, _ => none
  | _, _ => none
def mkIs : List IntKind → List Int → List SV
  | k :: ks, n :: ns => .c (.iv k n) :: mkIs ks ns
  | _, _ => []
def mkVs : List IntKind → List Int → List Value
  | k :: ks, n :: ns => .int k n :: mkVs ks ns
  | _, _ => []
theorem asIs_h {n : Nat → Prop} {ρ : Rho} : ∀ {ks : List IntKind} {args : List SV} {l : List Int} {vs : List Value}, asIs ks args = some l → VIs n ρ args vs → l.length = ks.length ∧ vs = mkVs ks l
  | [], [], l, vs, h, hv => by
    simp [asIs] at h; subst h
    cases vs with
    | nil => exact ⟨rfl, rfl⟩
    | cons v vs => exact hv.elim
  | [], _ :: _, l, vs, h, _ => by simp [asIs] at h
  | _ :: _, [], l, vs, h, _ => by simp [asIs] at h
  | k :: ks, x :: xs, l, vs, h, hv => by
    simp only [asIs] at h
    split at h
    · rename_i r l' h1 h2
      by_cases hk : sameKind k r.2.1 = true
      · rw [hk] at h; cases h
        cases vs with
        | nil => exact hv.elim
        | cons v vs =>
          obtain ⟨g1, g2⟩ := asIs_h h2 hv.2
          refine ⟨by simp [g1], ?_⟩
          rw [asI_is h1 hv.1, g2, sameKind_eq hk]; rfl
      · rw [Bool.eq_false_iff.2 hk] at h; cases h
    · cases h
theorem mkIs_is {n : Nat → Prop} {ρ : Rho} : ∀ {ks : List IntKind} {l : List Int}, l.length = ks.length → VIs n ρ (mkIs ks l) (mkVs ks l)
  | [], [], _ => trivial
  | [], _ :: _, h => by simp at h
  | _ :: _, [], h => by simp at h
  | k :: ks, x :: l, h => ⟨fun _ _ => rfl, mkIs_is (by simpa using h)⟩

def conP (ks : List IntKind) (post : List Int → Out SV) : List SV → Hp → Out (SV × Hp) := fun args H => opt (asIs ks args) (fun l => (post l).bind fun sv => .leaf (sv, H)) 340
/-- What a function of integers returns; the world may have more blocks behind it. -/
def PureC (P : Program) (f : FuncId) (ks : List IntKind) (post : List Int → Out SV) : Prop := ∀ l, l.length = ks.length → ∀ (w : World) (K : SV → Prop), (post l).holds K →
  Calls P f (mkVs ks l).toArray w fun e w' => ∃ v sv, e = .returned v ∧ K sv ∧ (∀ ρ, sv.den ρ = v) ∧ Fr.ok ⟨w, fun _ => False⟩ w'
theorem conP_ok {P : Program} {f : FuncId} {ks : List IntKind} {post : List Int → Out SV} (h : PureC P f ks post) : ContractOK P f (conP ks post) := by
  intro φ ρ H w args vs K hi hv hh
  obtain ⟨l, hl, hh⟩ := opt_holds hh
  obtain ⟨g1, rfl⟩ := asIs_h hl hv
  rw [Out.holds_bind] at hh
  refine (h l g1 w _ hh).mono ?_
  rintro e w' ⟨v, sv, rfl, hK, hsv, hf⟩
  refine ⟨v, ρ, sv, H, rfl, hK, .refl _ _, .refl _, ⟨?_, hi.up, hi.lt, fun k b hk => Blk.sat_world (hi.sat k b hk) fun i hl y o hy => hf.block y (hi.bd k b hk i hl y o hy) id, fun k b hk i hl y o hy => Nat.lt_of_lt_of_le (hi.bd k b hk i hl y o hy) hf.size, hi.may, hi.sep⟩, fun ρ' _ => hsv ρ'⟩
  exact ⟨hf.os.trans hi.fr.os, hf.tape.trans hi.fr.tape, hf.output.trans hi.fr.output, Nat.le_trans hi.fr.size hf.size, fun b hb hn => (hf.block b (Nat.lt_of_lt_of_le hb hi.fr.size) id).trans (hi.fr.block b hb hn)⟩
/-- By the executor. -/
theorem pureC_of {P : Program} {callT : CallT} (hc : CallOK P callT) {f : FuncId} {ks : List IntKind} {post : List Int → Out SV}
    (h : ∀ l, l.length = ks.length → ∀ K : SV → Prop, (post l).holds K → (callT f (mkIs ks l) ⟨[], 0, fun _ => True⟩).holds fun r => r.1.allKeys = [] ∧ ∃ sv, leSV r.1 sv ∧ K sv) : PureC P f ks post := by
  intro l hl w K hK
  have h0 : HInv ⟨w, fun _ => False⟩ (fun _ _ => none) ⟨[], 0, fun _ => True⟩ w :=
    ⟨⟨rfl, rfl, rfl, Nat.le_refl _, fun _ _ _ => rfl⟩, fun _ _ => trivial, fun k b h => (by cases h), fun k b h => (by cases h), fun k b h => (by cases h), fun k b h => (by cases h), fun k b h => (by cases h)⟩
  refine (hc _ _ _ w f _ _ _ h0 (mkIs_is hl) (h l hl K hK)).mono ?_
  rintro e w' ⟨v, ρ', sv, H', rfl, ⟨hk, sv', hle, hK⟩, _, _, h3, h4⟩
  refine ⟨v, sv', rfl, hK, fun ρ => ?_, h3.fr⟩
  rw [← leSV_den hle, h4.eq]
  exact SV.den_congr fun k hk' => by rw [hk] at hk'; cases hk'
theorem pureC_by {P : Program} {f : FuncId} {ks : List IntKind} {post : List Int → Out SV}
    (h : ∀ l, l.length = ks.length → ∃ callT : CallT, CallOK P callT ∧ ∀ K : SV → Prop, (post l).holds K → (callT f (mkIs ks l) ⟨[], 0, fun _ => True⟩).holds fun r => r.1.allKeys = [] ∧ ∃ sv, leSV r.1 sv ∧ K sv) : PureC P f ks post := by
  intro l hl w K hK
  obtain ⟨callT, hc, h⟩ := h l hl
  exact pureC_of hc (ks := ks) (post := fun l' => .need (l' = l) (post l)) (fun l' _ K hK => by obtain ⟨rfl, hK⟩ := hK; exact h K hK) l hl w K ⟨rfl, hK⟩
/-- From a plain fact about calls. -/
theorem pureC_plain {P : Program} {f : FuncId} {ks : List IntKind} {pre : List Int → Prop} {val : List Int → SV} (h : ∀ l, l.length = ks.length → pre l → ∀ w, Calls P f (mkVs ks l).toArray w fun e w' => (∀ ρ, e = .returned ((val l).den ρ)) ∧ w' = w) :
    PureC P f ks (fun l => .need (pre l) (.leaf (val l))) := by
  intro l hl w K hK
  refine (h l hl hK.1 w).mono ?_
  rintro e w' ⟨he, rfl⟩
  exact ⟨(val l).den (fun _ _ => none), val l, he _, hK.2, fun ρ => (Ending.returned.inj ((he (fun _ _ => none)).symm.trans (he ρ))).symm, ⟨rfl, rfl, rfl, Nat.le_refl _, fun _ _ _ => rfl⟩⟩

/-- A table of contracts. -/
abbrev Con := FuncId → Option (List SV → Hp → Out (SV × Hp))
def ConOK (P : Program) (con : Con) : Prop := ∀ f c, con f = some c → ContractOK P f c
def Con.add (f : FuncId) (c : List SV → Hp → Out (SV × Hp)) (con : Con) : Con := fun g => bif Nat.beq g f then some c else con g
theorem ConOK.nil {P : Program} : ConOK P (fun _ => none) := fun _ _ h => by cases h
theorem ConOK.add {P : Program} {f : FuncId} {c : List SV → Hp → Out (SV × Hp)} {con : Con} (h : ContractOK P f c) (g : ConOK P con) : ConOK P (con.add f c) := by
  intro f' c' h'
  simp only [Con.add] at h'
  cases hb : Nat.beq f' f with
  | true => rw [hb] at h'; have := Nat.eq_of_beq_eq_true hb; subst this; cases h'; exact h
  | false => rw [hb] at h'; exact g f' c' h'

/-- Temporaries: those that are named; nothing is said of the others. -/
def setTm : List (Option SV) → Nat → SV → List (Option SV)
  | [], _, _ => []
  | _ :: l, 0, v => some v :: l
  | x :: l, n + 1, v => x :: setTm l n v
def noTm : Nat → List (Option SV)
  | 0 => []
  | n + 1 => none :: noTm n
def tms (n : Nat) : List (Nat × SV) → List (Option SV)
  | [] => noTm n
  | (i, v) :: l => setTm (tms n l) i v
end Go.Proofs.Ytjpnpaboahbncaa.Sx
