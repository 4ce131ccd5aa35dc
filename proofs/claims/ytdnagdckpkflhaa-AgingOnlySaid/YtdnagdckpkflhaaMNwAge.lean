/- AgingOnly: awake and the law: what is asked. An argument that is one of few numbers, case by case. -/
import Derived.Test.YtdnagdckpkflhaaMNwTab
import Derived.Test.YtdnagdckpkflhaaMW
set_option linter.unusedVariables false
set_option linter.unusedSimpArgs false
set_option linter.unusedVariables false
set_option maxRecDepth 100000
namespace Go.Proofs.Ytdnagdckpkflhaa.Vc
open Go Go.RowKit Sx Cn Dc Ck
theorem vis_set {n : Nat → Prop} {ρ : Rho} {k : IntKind} {v : Int} : ∀ {args : List SV} {vs : List Value} {j : Nat}, VIs n ρ args vs → args[j]? = some (.c (.iv k v)) → VIs n ρ (args.set j (.c (.ki k v))) vs
  | [], _, _, _, h => by simp at h
  | a :: args, [], _, h, _ => h.elim
  | a :: args, x :: vs, 0, h, hj => by
    simp at hj; subst hj
    exact ⟨fun ρ' ha => h.1 ρ' ha, h.2⟩
  | a :: args, x :: vs, j + 1, h, hj => ⟨h.1, vis_set h.2 (by simpa using hj)⟩
noncomputable section
def splitA (con : Con) (u m : Nat) (f : FuncId) (j : Nat) : List Int → List SV → Hp → Out (SV × Hp)
  | [], _, _ => .bad 490
  | v :: vs, args, H => match args[j]? with
    | some (.c (.iv k x)) => .br (decide (x = v)) (execF P con noAnn u m f (args.set j (.c (.ki k v))) H) (splitA con u m f j vs args H)
    | some (.c (.ki _ _)) => execF P con noAnn u m f args H
    | _ => .bad 491
end
theorem splitA_ok {con : Con} (hc : ConOK P con) {u m : Nat} {f : FuncId} {j : Nat} : ∀ l : List Int, ContractOK P f (splitA con u m f j l)
  | [] => fun _ _ _ _ _ _ _ _ _ hh => hh.elim
  | v :: l => by
    intro φ ρ H w args vs K h hv hh
    unfold splitA at hh
    split at hh
    · rename_i k x hj
      by_cases hx : x = v
      · subst hx
        exact execF_ok0 hc m φ ρ H w f _ vs K h (vis_set hv hj) (hh.1 (decide_eq_true rfl))
      · exact splitA_ok hc l φ ρ H w args vs K h hv (hh.2 (decide_eq_false hx))
    · exact execF_ok0 hc m φ ρ H w f args vs K h hv hh
    · exact hh.elim
noncomputable section
def verAw20 : V := verF P conWM 16 12 69 [] .nil [] ⟨[], 0, fun _ => True⟩ (psYes.fin 0)
/-- The level is the one that is said. -/
def con20 (v : Int) : Con := Con.add 68 (splitA conWM 16 12 68 2 [v]) (Con.add 69 conYes conWM)
def verOnly (v s l o : Int) : V := verF P (con20 v) 16 12 13 [] .nil [.c (.iv .u8 s), .c (.iv .u8 l), .c (.iv .u8 o)] ⟨[], 0, fun _ => True⟩ yesV
end
end Go.Proofs.Ytdnagdckpkflhaa.Vc

/- Config of the statements: the conditions, printed by program. -/
set_option linter.unusedVariables false
set_option maxRecDepth 100000
namespace Go.Proofs.Ytdnagdckpkflhaa.Vc
open Go Go.RowKit Sx Cn Dc Ck

theorem verAw20_eq  : verAw20 =
  V.need ((U8 0 fun (x : Nat) => Int.ofNat 0) ∧ 0 ≤ 9)
    (V.need (∃ (x : Nat × Nat × (Nat → Nat)), 1 ≤ x.fst)
    (V.any (Nat × Nat × (Nat → Nat)) (fun (x : Nat × Nat × (Nat → Nat)) => 1 ≤ x.fst) fun (x : Nat × Nat × (Nat → Nat)) => nN [(1, .eqI 1 1), (1, .eqI 4 4), (1, .eqI 1 1), (2, .eqI 4 4), (2, .eqI 1 1), (1, .eqI 3 3), (1, .eqI 1 1), (1, .eq 1 1), (1, .pf (x.fst = x.fst) rfl), (1, .eq 0 0), (1, .pf (x.snd.fst = x.snd.fst) rfl), (1, .le 1 1)]
    (V.need (1 ≤ 1 ∧ 1 ≤ x.fst)
    (V.need (∀ (i e : Nat), i = 0 ∧ e < 1 → e = e)
    (V.need (∀ (i e : Nat), i = 0 ∧ e < 1 → 0 = 0)
    (V.need (∀ (i e : Nat), i = 0 ∧ e < 1 → x.snd.snd e = x.snd.snd e)
    (nN [(1, .le 1 1)]
    (V.need (0 ≤ 0 ∧ 0 ≤ x.snd.fst)
    (V.need (∀ (i e : Nat), i = 0 ∧ e < 0 → uP (fun (x : Nat) => Int.ofNat 0) 0 e = uP (fun (x : Nat) => Int.ofNat 0) 0 e)
    (V.need (∀ (i e : Nat), i = 0 ∧ e < 0 → uL (fun (x : Nat) => Int.ofNat 0) 0 e = uL (fun (x : Nat) => Int.ofNat 0) 0 e)
    (V.need (∀ (i e : Nat), i = 0 ∧ e < 0 → uD (fun (x : Nat) => Int.ofNat 0) 0 e = uD (fun (x : Nat) => Int.ofNat 0) 0 e)
    (V.need (∀ (i : Nat), i < 1 → 0 ≤ gd 1 (fun (x : Nat) => 0) i ∧ 0 ≤ gd 1 (fun (e : Nat) => x.snd.snd e) i)
    (V.need (∀ (i e : Nat), i < 1 ∧ e < 0 → cO (fun (x : Nat) => Int.ofNat 0) 0 i e = cO (fun (x : Nat) => Int.ofNat 0) 0 i e)
    (V.need (∀ (i e : Nat), i < 1 ∧ e < 0 → cA (fun (x : Nat) => Int.ofNat 0) 0 i e = cA (fun (x : Nat) => Int.ofNat 0) 0 i e)
    (V.need (∀ (i e : Nat), i < 1 ∧ e < 0 → cB (fun (x : Nat) => Int.ofNat 0) 0 i e = cB (fun (x : Nat) => Int.ofNat 0) 0 i e)
    (V.need (errE (Cf.mk (Int.ofNat 1) (Int.ofNat 4) (Int.ofNat 1) (Int.ofNat 4) (Int.ofNat 4) (Int.ofNat 1) (Int.ofNat 1) (Int.ofNat 3) (Int.ofNat 1) 1 x.fst 0 x.snd.fst (fun (e : Nat) => 0) (fun (e : Nat) => x.snd.snd e) (fun (i e : Nat) => cO (fun (x : Nat) => Int.ofNat 0) 0 i e) (fun (i e : Nat) => cA (fun (x : Nat) => Int.ofNat 0) 0 i e) (fun (i e : Nat) => cB (fun (x : Nat) => Int.ofNat 0) 0 i e) (fun (e : Nat) => uP (fun (x : Nat) => Int.ofNat 0) 0 e) (fun (e : Nat) => uL (fun (x : Nat) => Int.ofNat 0) 0 e) fun (e : Nat) => uD (fun (x : Nat) => Int.ofNat 0) 0 e) = Int.ofNat 0)
    (V.need (∃ (x_1 : Cf × Nat), IsCl (Cf.mk (Int.ofNat 1) (Int.ofNat 4) (Int.ofNat 1) (Int.ofNat 4) (Int.ofNat 4) (Int.ofNat 1) (Int.ofNat 1) (Int.ofNat 3) (Int.ofNat 1) 1 x.fst 0 x.snd.fst (fun (e : Nat) => 0) (fun (e : Nat) => x.snd.snd e) (fun (i e : Nat) => cO (fun (x : Nat) => Int.ofNat 0) 0 i e) (fun (i e : Nat) => cA (fun (x : Nat) => Int.ofNat 0) 0 i e) (fun (i e : Nat) => cB (fun (x : Nat) => Int.ofNat 0) 0 i e) (fun (e : Nat) => uP (fun (x : Nat) => Int.ofNat 0) 0 e) (fun (e : Nat) => uL (fun (x : Nat) => Int.ofNat 0) 0 e) fun (e : Nat) => uD (fun (x : Nat) => Int.ofNat 0) 0 e) x_1.fst ∧ (Int.ofNat 4).toNat ≤ x_1.snd)
    (V.any (Cf × Nat) (fun (x_1 : Cf × Nat) => IsCl (Cf.mk (Int.ofNat 1) (Int.ofNat 4) (Int.ofNat 1) (Int.ofNat 4) (Int.ofNat 4) (Int.ofNat 1) (Int.ofNat 1) (Int.ofNat 3) (Int.ofNat 1) 1 x.fst 0 x.snd.fst (fun (e : Nat) => 0) (fun (e : Nat) => x.snd.snd e) (fun (i e : Nat) => cO (fun (x : Nat) => Int.ofNat 0) 0 i e) (fun (i e : Nat) => cA (fun (x : Nat) => Int.ofNat 0) 0 i e) (fun (i e : Nat) => cB (fun (x : Nat) => Int.ofNat 0) 0 i e) (fun (e : Nat) => uP (fun (x : Nat) => Int.ofNat 0) 0 e) (fun (e : Nat) => uL (fun (x : Nat) => Int.ofNat 0) 0 e) fun (e : Nat) => uD (fun (x : Nat) => Int.ofNat 0) 0 e) x_1.fst ∧ (Int.ofNat 4).toNat ≤ x_1.snd) fun (x : Cf × Nat) => nN [(33, .lt2 0 1 0 1), (1, .eqI 37 37), (1, .eqI 1 1), (5, .eqI 0 0), (1, .eq 52 52), (1, .le 52 52), (33, .lt2 0 1 0 1), (1, .eqI 38 38), (1, .eqI 0 0), (1, .eqI 2 2), (1, .eqI 37 37), (1, .eqI 0 0), (2, .eqI 1 1), (1, .eq 52 52), (1, .le 52 52), (33, .lt2 0 1 0 1), (1, .eqI 41 41), (2, .eqI 2 2), (1, .eqI 38 38), (2, .eqI 0 0), (1, .eqI 2 2), (1, .eq 52 52), (1, .le 52 52), (33, .lt2 0 1 0 1), (1, .eqI 37 37), (1, .eqI 2 2), (1, .eqI 41 41), (1, .eqI 0 0), (1, .eqI 2 2), (1, .eqI 3 3), (1, .eq 52 52), (1, .le 52 52), (19, .lt2 0 1 0 1), (1, .eqI 41 41), (1, .eqI 1 1), (1, .eqI 37 37), (2, .eqI 1 1), (1, .eqI 4 4), (1, .eq 52 52), (1, .le 52 52), (49, .lt2 0 1 0 1), (1, .eqI 37 37), (1, .eqI 1 1), (1, .eqI 41 41), (2, .eqI 2 2), (1, .eqI 5 5), (1, .eq 52 52), (1, .le 52 52), (19, .lt2 0 1 0 1), (1, .eqI 41 41), (1, .eqI 1 1), (1, .eqI 37 37), (2, .eqI 1 1), (1, .eqI 6 6), (1, .eq 52 52), (1, .le 52 52), (29, .lt2 0 1 0 1), (1, .eqI 38 38), (1, .eqI 1 1), (1, .eqI 41 41), (2, .eqI 2 2), (1, .eqI 7 7), (1, .eq 52 52), (1, .le 52 52), (34, .lt2 0 1 0 1), (1, .eqI 38 38), (1, .eqI 0 0), (2, .eqI 1 1), (1, .eqI 38 38), (2, .eqI 0 0), (1, .eqI 8 8), (1, .eq 52 52), (1, .le 52 52)]
    (V.need (numAt [SC.ki IntKind.u64 (Int.ofNat 0), SC.ki IntKind.u64 (Int.ofNat 0), SC.ki IntKind.u64 (Int.ofNat 0), SC.ki IntKind.u64 (Int.ofNat 0), SC.ki IntKind.u64 (Int.ofNat 0), SC.ki IntKind.u64 (Int.ofNat 0), SC.ki IntKind.u64 (Int.ofNat 0), SC.ki IntKind.u64 (Int.ofNat 0), SC.ki IntKind.u64 (Int.ofNat 0), SC.ki IntKind.u64 (Int.ofNat 0), SC.ki IntKind.u64 (Int.ofNat 0), SC.ki IntKind.u64 (Int.ofNat 0), SC.ki IntKind.u64 (Int.ofNat 0), SC.ki IntKind.u64 (Int.ofNat 0), SC.ki IntKind.u64 (Int.ofNat 0), SC.ki IntKind.u64 (Int.ofNat 0), SC.ki IntKind.u64 (Int.ofNat 0), SC.ki IntKind.u64 (Int.ofNat 0), SC.ki IntKind.u64 (Int.ofNat 0), SC.ki IntKind.u64 (Int.ofNat 0), SC.ki IntKind.u64 (Int.ofNat 0), SC.ki IntKind.u64 (Int.ofNat 0), SC.ki IntKind.u64 (Int.ofNat 0), SC.ki IntKind.u64 (Int.ofNat 0), SC.ki IntKind.u64 (Int.ofNat 0), SC.ki IntKind.u64 (Int.ofNat 0), SC.ki IntKind.u64 (Int.ofNat 0), SC.ki IntKind.u64 (Int.ofNat 0), SC.ki IntKind.u64 (Int.ofNat 0), SC.ki IntKind.u64 (Int.ofNat 0), SC.ki IntKind.u64 (Int.ofNat 0), SC.ki IntKind.u64 (Int.ofNat 0), SC.ki IntKind.u64 (Int.ofNat 0), SC.ki IntKind.u64 (Int.ofNat 0), SC.ki IntKind.u64 (Int.ofNat 0), SC.ki IntKind.u64 (Int.ofNat 0), SC.ki IntKind.u64 (Int.ofNat 0), SC.ki IntKind.u64 (Int.ofNat 1), SC.ki IntKind.u64 (Int.ofNat 0), SC.ki IntKind.u64 (Int.ofNat 0), SC.ki IntKind.u64 (Int.ofNat 0), SC.ki IntKind.u64 (Int.ofNat 2), SC.ki IntKind.u64 (Int.ofNat 0), SC.ki IntKind.u64 (Int.ofNat 0), SC.ki IntKind.u64 (Int.ofNat 0), SC.ki IntKind.u64 (Int.ofNat 0), SC.ki IntKind.u64 (Int.ofNat 0), SC.ki IntKind.u64 (Int.ofNat 0), SC.ki IntKind.u64 (Int.ofNat 0), SC.ki IntKind.u64 (Int.ofNat 0), SC.ki IntKind.u64 (Int.ofNat 0), SC.ki IntKind.u64 (Int.ofNat 0)] 38 = Int.ofNat 0)
    (nN [(22, .lt2 0 1 0 1)]
    (V.need (0 + 1 ≤ 9223372036854775807 ∧ (0 + 1) * 40 ≤ 140737488355328)
    (V.any Nat (fun (x : Nat) => 0 + 1 ≤ x) fun (x : Nat) => nN [(27, .lt2 0 1 0 1), (1, .eqI 41 41), (1, .eqI 5 5), (1, .eqI 3 3), (1, .eqI 38 38), (1, .eqI 0 0), (1, .eqI 1 1), (1, .eqI 9 9), (1, .eq 52 52), (1, .le 52 52), (42, .lt2 0 1 0 1), (1, .eqI 15 15), (1, .eqI 2 2), (1, .eqI 41 41), (1, .eqI 2 2), (1, .eqI 5 5), (1, .eqI 10 10), (1, .eq 52 52), (1, .le 52 52), (9, .lt2 0 1 0 1), (1, .eqI 14 14), (1, .eqI 1 1), (1, .eqI 15 15), (2, .eqI 0 0), (1, .eqI 11 11), (1, .eq 52 52), (1, .le 52 52), (23, .lt2 0 1 0 1), (1, .neI 4 0), (3, .lt2 0 1 0 1), (1, .eqI 16 16), (2, .eqI 1 1), (1, .eqI 14 14), (2, .eqI 0 0), (1, .eqI 12 12), (1, .eq 52 52), (1, .le 52 52), (10, .lt2 0 1 0 1), (1, .eqI 15 15), (1, .eqI 1 1), (1, .eqI 2 2), (1, .eqI 16 16), (1, .eqI 0 0), (1, .eqI 1 1), (1, .eqI 13 13), (1, .eq 52 52), (1, .le 52 52), (38, .lt2 0 1 0 1), (1, .leI 0 1), (1, .eqI 7 7), (2, .eqI 2 2), (1, .eqI 15 15), (1, .eqI 0 0), (1, .eqI 1 1), (1, .eqI 14 14), (1, .eq 52 52), (1, .le 52 52), (18, .lt2 0 1 0 1)]
    (V.need (0 < 0 + 1)
    (V.need (0 < 0 + 1)
    (V.need (0 < 0 + 1)
    (V.need (0 < 0 + 1)
    (V.need (0 < 0 + 1)
    (V.need (0 < 0 + 1)
    (V.need True V.ok))))))))))))))))))))))))))))) := by kernel_rfl


end Go.Proofs.Ytdnagdckpkflhaa.Vc
