/- Cells of tasks: the conditions, printed by program. -/
import Derived.Test.YtomaagmleafjeaaMMdTkD
import Derived.Test.YtomaagmleafjeaaMW
import Derived.Test.YtomaagmleafjeaaMMdEt
set_option linter.unusedVariables false
set_option linter.unusedSimpArgs false
set_option maxRecDepth 100000
namespace Go.Proofs.Ytomaagmleafjeaa.Md
open Go Go.RowKit Sx Cn Dc Ck Vc

theorem vTk_eq (c : Cf) (t k : Int) : vTk c t k =
  nN [(19, .lt2 0 1 0 1), (1, .pf (IntKind.i64.wrap (IntKind.i64.wrap (IntKind.i64.wrap (IntKind.i64.wrap (Int.ofNat 4 + c.H) + c.C) + IntKind.i64.wrap (Int.ofNat 2 * c.W)) + IntKind.i64.wrap (IntKind.i64.wrap (c.W * c.L) * IntKind.i64.wrap (Int.ofNat 2 + c.D))) = IntKind.i64.wrap (IntKind.i64.wrap (IntKind.i64.wrap (IntKind.i64.wrap (Int.ofNat 4 + c.H) + c.C) + IntKind.i64.wrap (Int.ofNat 2 * c.W)) + IntKind.i64.wrap (IntKind.i64.wrap (c.W * c.L) * IntKind.i64.wrap (Int.ofNat 2 + c.D)))) rfl), (1, .pf (t = t) rfl), (1, .pf (c.T = c.T) rfl), (1, .eqI 5 5)]
    (V.need (okAt t c.T (IntKind.i64.wrap (IntKind.i64.wrap (IntKind.i64.wrap (IntKind.i64.wrap (Int.ofNat 4 + c.H) + c.C) + IntKind.i64.wrap (Int.ofNat 2 * c.W)) + IntKind.i64.wrap (IntKind.i64.wrap (c.W * c.L) * IntKind.i64.wrap (Int.ofNat 2 + c.D)))) (Int.ofNat 5))
    (nN [(1, .pf (∃ (x : Int), x = IntKind.i64.wrap (IntKind.i64.wrap (IntKind.i64.wrap (IntKind.i64.wrap (Int.ofNat 4 + c.H) + c.C) + IntKind.i64.wrap (Int.ofNat 2 * c.W)) + IntKind.i64.wrap (IntKind.i64.wrap (c.W * c.L) * IntKind.i64.wrap (Int.ofNat 2 + c.D))) + t * Int.ofNat 5) ⟨_, rfl⟩)]
    (V.any Int (fun (r : Int) => r = IntKind.i64.wrap (IntKind.i64.wrap (IntKind.i64.wrap (IntKind.i64.wrap (Int.ofNat 4 + c.H) + c.C) + IntKind.i64.wrap (Int.ofNat 2 * c.W)) + IntKind.i64.wrap (IntKind.i64.wrap (c.W * c.L) * IntKind.i64.wrap (Int.ofNat 2 + c.D))) + t * Int.ofNat 5) fun (x : Int) => V.br (decide (x < Int.ofNat 0))
    (V.need (Int.negSucc 0 = lT c + t * Int.ofNat 5 + k)
    (nN [(1, .pf (Int.negSucc 0 = Int.negSucc 0) rfl)] V.ok))
    (V.need (IntKind.i64.wrap (x + k) = lT c + t * Int.ofNat 5 + k)
    (nN [(1, .pf (IntKind.i64.wrap (x + k) = IntKind.i64.wrap (x + k)) rfl)] V.ok))))) := by kernel_rfl


end Go.Proofs.Ytomaagmleafjeaa.Md

/- The cells of tasks, by the reference: the contract. -/
set_option maxRecDepth 100000
namespace Go.Proofs.Ytomaagmleafjeaa.Md
open Go Go.RowKit Sx Cn Dc Ck Vc
theorem lT_e {c : Cf} (ok : okY c) : IntKind.i64.wrap (IntKind.i64.wrap (IntKind.i64.wrap (IntKind.i64.wrap (Int.ofNat 4 + c.H) + c.C) + IntKind.i64.wrap (Int.ofNat 2 * c.W)) + IntKind.i64.wrap (IntKind.i64.wrap (c.W * c.L) * IntKind.i64.wrap (Int.ofNat 2 + c.D))) = lT c := by
  have hb := ent_bd (l := 0) ok (by unfold okY at ok; omega)
  obtain ⟨hW, hL, hC, hT, hD, hH⟩ := ok
  simp only [Int.ofNat_eq_natCast, Int.cast_ofNat_Int]
  rw [w64 (n := 2 + c.D) (by omega), w64 (n := 4 + c.H) (by omega), w64 (n := 4 + c.H + c.C) (by omega), w64 (n := 2 * c.W) (by omega), w64 (n := c.W * c.L) (by omega), w64 (n := c.W * c.L * (2 + c.D)) (by omega), w64 (n := 4 + c.H + c.C + 2 * c.W) (by omega), w64 (by omega)]
  unfold lT lQ
  omega
theorem lT_bd {c : Cf} (ok : okY c) : 0 ≤ lT c ∧ lT c ≤ 100000 := by
  have hb := ent_bd (l := 0) ok (by unfold okY at ok; omega)
  obtain ⟨hW, hL, hC, hT, hD, hH⟩ := ok
  unfold lT lQ
  omega
def preTk (c : Cf) (t k : Int) : Prop := okY c ∧ (0 ≤ t ∧ t < c.T) ∧ 0 ≤ k ∧ k ≤ 4
theorem vhTk {c : Cf} {t k : Int} (h : preTk c t k) : VHolds (vTk c t k) := by
  obtain ⟨ok, ht, hk⟩ := h
  have hT : c.T ≤ 256 := ok.2.2.2.1.2
  have hb := lT_bd ok
  constructor
  rw [vTk_eq]
  simp only [lT_e ok]
  refine nN_h rfl (V.needI ⟨ht, by show 0 ≤ t * (5 : Int) ∧ t * (5 : Int) ≤ 1000000; omega, hb.1, by omega⟩ (nN_h rfl (V.anyI fun x hx => ?_)))
  have hx : x = lT c + t * 5 := hx
  refine V.brI (fun h => (dlt (by rw [hx]; show ¬ lT c + t * 5 < (0 : Int); omega) h).elim) fun _ => V.needI ?_ (nN_h rfl V.okI)
  rw [hx, w64 (by omega)]
  rfl
noncomputable section
def three : List Nat → Option (Nat × Nat × Nat)
  | [a, b, c] => some (a, b, c)
  | _ => none
/-- A contract of a function of a configuration and two numbers. -/
def conCf2 (post : Cf → Int → Int → Out (SV × Hp)) : List SV → Hp → Out (SV × Hp) := fun args H => match args with
  | [s, .c w, .c v] => match rdCf s H.h, numC w, numC v with
    | some p, some w, some v => match three p.2 with
      | some k => fN k.1 fun k0 => fN k.2.1 fun k1 => fN k.2.2 fun k2 => useP [k0, k1, k2] 3 [argC p.1, iv w, iv v] (hC p.1) (post p.1 w v) args H
      | none => .bad 452
    | _, _, _ => .bad 453
  | _ => .bad 454
theorem conCf2_ok {f : FuncId} {post : Cf → Int → Int → Out (SV × Hp)} (h : ∀ c w v, LocalOK P f [argC c, iv w, iv v] (hC c) 3 (post c w v)) : ContractOK P f (conCf2 post) := contract_of_useP fun args H => by
  unfold conCf2
  simp only [fN_eq]
  repeat' split
  all_goals first
    | exact .inl ⟨_, rfl⟩
    | exact .inr ⟨_, _, _, _, _, rfl, h _ _ _⟩
def outTk (c : Cf) (t k : Int) : Out (SV × Hp) := .need (preTk c t k) (.any Int (fun r => r = lT c + t * 5 + k) fun r => .leaf (.c (.iv .i64 r), ⟨[], 3, fun _ => True⟩))
def cTk : List SV → Hp → Out (SV × Hp) := conCf2 outTk
theorem cTk_ok : ContractOK P fTk cTk := conCf2_ok fun c t k => local_of_ver conL0_ok fun h => vhTk h
end
end Go.Proofs.Ytomaagmleafjeaa.Md
