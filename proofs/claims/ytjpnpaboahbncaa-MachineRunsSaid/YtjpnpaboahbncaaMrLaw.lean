/- 'MachineRuns': the law, joined. -/
import Derived.Test.YtjpnpaboahbncaaMrTrees2
set_option linter.unusedVariables false
set_option linter.unusedSimpArgs false
set_option maxRecDepth 100000
namespace Go.Proofs.Ytjpnpaboahbncaa.Mr
open Go Go.RowKit Sx

theorem local19 : LocalOK P 19 [] [] 0 post19 := by
  refine (CallOK.local (execF_ok0 (P := P) (con := con1) (u := 3) con1_ok 6) 19 [] [] 0).monoV ?_
  intro K hh
  change awake19.holds _
  rw [awake_tree]
  simp only [Out.holds, post19] at hh ⊢
  refine ⟨by simp, by simp [pre20], ⟨0, trivial⟩, fun c1 _ => ⟨by simp, (by simp [pre20, steps, upG]; omega), ⟨0, trivial⟩, fun c2 _ => ?_⟩⟩
  refine ⟨fun _ => ⟨fun _ => ⟨fun _ => ⟨fun _ => ⟨fun h => (by cases h), fun _ => ⟨by simp, by simp, by simp, ?_⟩⟩, fun h => (by cases h)⟩, fun h => (by cases h)⟩, fun h => (by cases h)⟩, fun h => (by cases h)⟩
  refine ⟨_, ?_, hh⟩
  exact rfl
theorem con2_ok : ∀ f c, con2 f = some c → ContractOK P f c := by
  intro f c h
  unfold con2 at h
  cases h1 : Nat.beq f 19 with
  | true =>
    rw [h1] at h; have := Nat.eq_of_beq_eq_true h1; subst this; cases h
    exact contract_of_use fun args H => .inr ⟨_, _, _, _, _, rfl, local19⟩
  | false => rw [h1] at h; exact con1_ok f c h

def yes (r : SV × Hp) : Prop := ∀ ρ, r.1.den ρ = .bool true
structure Yes (o : Out (SV × Hp)) : Prop where
  h : o.holds yes
theorem main_yes (a b c : Int) (hc : 0 ≤ c ∧ c ≤ 255) : Yes (main3 a b c) := by
  rw [main_tree]
  constructor
  have wc : IntKind.i64.wrap c = c := w64 (by omega)
  simp only [wc]
  simp only [Out.holds]
  refine ⟨by simp, by simp, by simp, by simp, by simp, by decide, by simp, ⟨0, by simp⟩, fun x hx => ?_⟩
  have hx1 : 0 ≤ x ∧ x < 50 := hx.2 (by decide)
  have wu : ∀ B : Int, IntKind.u64.wrap (min x (max ((0 : Nat) : Int) B)) = min x (max ((0 : Nat) : Int) B) := fun B => wu64 (by omega)
  have wi : ∀ B : Int, IntKind.i64.wrap (x - min x (max ((0 : Nat) : Int) B)) = x - min x (max ((0 : Nat) : Int) B) := fun B => w64 (by omega)
  have e2 : ∀ B : Int, min x (steps x B) = min x (max ((0 : Nat) : Int) B) := fun B => by unfold steps; omega
  simp only [Int.ofNat_eq_natCast, wu, wi, e2]
  clear hx wu wi e2
  refine ⟨fun _ => ⟨by decide, ⟨trivial, trivial⟩, ?_⟩, fun _ => ⟨⟨trivial, trivial⟩, ?_⟩⟩
  · generalize b.tmod _ = B
    have e2 : min x (steps x B) = min x (max ((0 : Nat) : Int) B) := by unfold steps; omega
    refine ⟨by simp, by unfold pre20; simp; omega, ⟨0, trivial⟩, fun c1 _ => ⟨fun h => ?_, fun _ => ⟨fun h => ?_, fun _ => ⟨fun h => (by cases h), fun _ => ?_⟩⟩⟩⟩
    · exfalso; revert h; simp [steps]
    · exfalso; revert h
      rw [show decide (B ≥ max ((1 : Nat) : Int) x) = decide (max ((1 : Nat) : Int) x ≤ B) from rfl]
      cases decide (max ((1 : Nat) : Int) x ≤ B) <;> simp
    · refine ⟨by simp, by simp, by simp, fun h => ?_, fun _ => ⟨by simp, ?_, ⟨0, trivial⟩, fun c2 _ => ⟨fun h => ?_, fun h => ?_⟩⟩⟩
      · exfalso; revert h; simp [upG]
      · unfold pre20 upG; simp; omega
      · intro ρ
        simp [SV.den, SC.den]
      · exfalso; revert h; simp [steps]; omega
  · generalize b = B
    have e2 : min x (steps x B) = min x (max ((0 : Nat) : Int) B) := by unfold steps; omega
    refine ⟨by simp, by unfold pre20; simp; omega, ⟨0, trivial⟩, fun c1 _ => ⟨fun h => ?_, fun _ => ⟨fun h => ?_, fun _ => ⟨fun h => (by cases h), fun _ => ?_⟩⟩⟩⟩
    · exfalso; revert h; simp [steps]
    · exfalso; revert h
      rw [show decide (B ≥ max ((1 : Nat) : Int) x) = decide (max ((1 : Nat) : Int) x ≤ B) from rfl]
      cases decide (max ((1 : Nat) : Int) x ≤ B) <;> simp
    · refine ⟨by simp, by simp, by simp, fun h => ?_, fun _ => ⟨by simp, ?_, ⟨0, trivial⟩, fun c2 _ => ⟨fun h => ?_, fun h => ?_⟩⟩⟩
      · exfalso; revert h; simp [upG]
      · unfold pre20 upG; simp; omega
      · intro ρ
        simp [SV.den, SC.den]
      · exfalso; revert h; simp [steps]; omega

theorem fin_of {Q : Program} {callT : CallT} (hc : CallOK Q callT) {f : FuncId} {args : List SV} {vs : List Value} {w : World} {o : Out (SV × Hp)} (e : callT f args ⟨[], 0, T1⟩ = o) (h : Yes o)
    (hv : VIs (Hp.sc ⟨[], 0, T1⟩) (fun _ _ => none) args vs) : Calls Q f vs.toArray w fun e w' => e = .returned (.bool true) ∧ Below w.heap.size w w' := by
  subst e
  have h0 : HInv ⟨w, fun _ => False⟩ (fun _ _ => none) ⟨[], 0, T1⟩ w :=
    ⟨⟨rfl, rfl, rfl, Nat.le_refl _, fun _ _ _ => rfl⟩, fun _ _ => trivial, fun k b h => (by cases h), fun k b h => (by cases h), fun k b h => (by cases h), fun k b h => (by cases h), fun k b h => (by cases h)⟩
  refine (hc _ _ _ w f args vs yes h0 hv h.h).mono ?_
  rintro e w' ⟨v, ρ', sv, H', rfl, hK, _, _, h3, h4⟩
  have hv : v = .bool true := h4.eq.trans (hK ρ')
  subst hv
  exact ⟨rfl, h3.fr.os, h3.fr.tape, h3.fr.output, h3.fr.size, fun k hk => h3.fr.block k hk (fun h => h)⟩
theorem call_ok : CallOK P (execF P con2 noAnn 3 6) := execF_ok0 con2_ok 6
theorem walk (a b c : Int) (hc : 0 ≤ c ∧ c ≤ 255) (w : World) : Calls P 3 #[.int .i64 a, .int .i64 b, .int .u8 c] w fun e w' => e = .returned (.bool true) ∧ Below w.heap.size w w' :=
  fin_of (vs := [.int .i64 a, .int .i64 b, .int .u8 c]) call_ok (args := [.c (.iv .i64 a), .c (.iv .i64 b), .c (.iv .u8 c)]) (o := main3 a b c) (by kernel_rfl) (main_yes a b c hc) ⟨fun _ _ => rfl, fun _ _ => rfl, fun _ _ => rfl, trivial⟩
end Go.Proofs.Ytjpnpaboahbncaa.Mr
