/- 'MachineRuns': the contracts, as a table. -/
import Derived.Test.YtjpnpaboahbncaaMrRound
set_option linter.unusedVariables false
set_option linter.unusedSimpArgs false
set_option maxRecDepth 100000
namespace Go.Proofs.Ytjpnpaboahbncaa.Mr
open Go Go.RowKit Sx

theorem local26 (a b : Int) (ha : b ≤ 4611686018427387904) : LocalOK P 26 [.c (.iv .i64 a), .c (.iv .i64 b)] [] 0 (post26 a b) := by
  refine (CallOK.local (execF_ok0 (P := P) (con := noCon) (u := 3) (fun _ _ h => by cases h) 2) 26 [.c (.iv .i64 a), .c (.iv .i64 b)] [] 0).monoV ?_
  intro K hh
  change (execF P noCon noAnn 3 2 26 [.c (.iv .i64 a), .c (.iv .i64 b)] ⟨[], 0, T1⟩).holds _
  rw [draw_tree]
  have hh := hh.2
  simp only [Out.holds] at hh ⊢
  refine ⟨fun h => ?_, fun h => ?_⟩
  · have h := of_decide_eq_true h
    refine ⟨_, ?_, hh 0 ⟨fun _ => rfl, fun h' => by omega⟩⟩
    exact ⟨rfl, rfl⟩
  · have h := of_decide_eq_false h
    have hm1 : a.tmod b < b := by
      rcases Int.le_total 0 a with h0 | h0
      · rw [Int.tmod_eq_emod_of_nonneg h0]; exact Int.emod_lt_of_pos a (by omega)
      · have : a.tmod b ≤ 0 := by
          have := Int.tmod_nonneg b (a := -a) (by omega)
          rw [Int.neg_tmod] at this; omega
        omega
    have hm2 : -b < a.tmod b := by
      rcases Int.le_total 0 a with h0 | h0
      · have := Int.tmod_nonneg b h0; omega
      · have h1 : (-a).tmod b < b := by rw [Int.tmod_eq_emod_of_nonneg (by omega)]; exact Int.emod_lt_of_pos _ (by omega)
        rw [Int.neg_tmod] at h1; omega
    refine ⟨by omega, fun h2 => ⟨by omega, ?_⟩, fun h2 => ⟨by omega, ?_⟩⟩
    · have h2 := of_decide_eq_true h2
      rw [w64 (by omega)]
      refine ⟨_, ?_, hh (a.tmod b + b) ⟨fun h' => by omega, fun h' => by omega⟩⟩
      exact ⟨rfl, rfl⟩
    · have h2 := of_decide_eq_false h2
      refine ⟨_, ?_, hh (a.tmod b) ⟨fun h' => by omega, fun h' => by omega⟩⟩
      exact ⟨rfl, rfl⟩
theorem con26_ok : ContractOK P 26 con26 := contract_of_use fun args H => by
  unfold con26
  split
  · split
    · split
      · exact .inr ⟨_, _, _, _, _, rfl, local26 _ _ (of_decide_eq_true ‹_›)⟩
      · exact .inl ⟨_, rfl⟩
    · exact .inl ⟨_, rfl⟩
  · exact .inl ⟨_, rfl⟩
theorem con20_ok : ContractOK P 20 con20 := contract_of_use fun args H => by
  unfold con20
  repeat' split
  all_goals first
    | exact .inl ⟨_, rfl⟩
    | exact .inr ⟨_, _, _, _, _, rfl, local20 _ _ _ _ _ _⟩
def con1 : FuncId → Option (List SV → Hp → Out (SV × Hp)) := fun f => bif Nat.beq f 26 then some con26 else bif Nat.beq f 20 then some con20 else none
theorem con1_ok : ∀ f c, con1 f = some c → ContractOK P f c := by
  intro f c h
  unfold con1 at h
  cases h1 : Nat.beq f 26 with
  | true => rw [h1] at h; have := Nat.eq_of_beq_eq_true h1; subst this; cases h; exact con26_ok
  | false =>
    rw [h1] at h
    cases h2 : Nat.beq f 20 with
    | true => rw [h2] at h; have := Nat.eq_of_beq_eq_true h2; subst this; cases h; exact con20_ok
    | false => rw [h2] at h; cases h
end Go.Proofs.Ytjpnpaboahbncaa.Mr
