/- Slots of the injector: the conditions, printed by program. -/
import Derived.Test.YtomaagmleafjeaaMMdSlD
import Derived.Test.YtomaagmleafjeaaMW
import Derived.Test.YtomaagmleafjeaaMMdBr
import Derived.Test.YtomaagmleafjeaaMMdAlB
set_option linter.unusedVariables false
set_option linter.unusedSimpArgs false
set_option linter.unusedVariables false
set_option maxRecDepth 100000
namespace Go.Proofs.Ytomaagmleafjeaa.Md
open Go Go.RowKit Sx Cn Dc Ck Vc

theorem vSl_eq (c : Cf) (n : Nat) (m : Mm) : vSl c n m =
  V.need (0 ≤ cntS c.H (m.g 2) ∧ 0 ≤ 0)
    (nN [(2, .eq 0 0)]
    (V.need (Int.ofNat 0 = (↑0 : Int))
    (nN [(1, .eq 0 0), (1, .le 0 0), (1, .pf (∀ (e : Nat), e < 0 → m.g (4 + e) = m.g (4 + e)) (by intros; rfl))]
    (V.any (Nat × Nat) (fun (x : Nat × Nat) => x.fst ≤ cntS c.H (m.g 2) ∧ x.fst ≤ x.snd) fun (x : Nat × Nat) => nN [(3, .lt2 0 1 0 1), (1, .eqI 2 2), (1, .le 1 1), (1, .pf (∀ (i : Nat), i < 1 → 1 ≤ 1) (by intros; exact Nat.le_refl _)), (2, .pf (n = n) rfl), (1, .pf (m.ct = m.ct) rfl), (1, .le 1 1), (1, .pf (∀ (i : Nat), i < 1 → n ≤ n) (by intros; exact Nat.le_refl _)), (1, .pf (∀ (i e : Nat), i < 1 ∧ e < n → m.g e = m.g e) (by intros; rfl)), (1, .pf (∃ (x : Int), x = (Mm.mk (fun (e : Nat) => m.g e) m.lk m.lc m.lo m.ln m.ct).val n (Int.ofNat 2)) ⟨_, rfl⟩)]
    (V.any Int (fun (v : Int) => v = (Mm.mk (fun (e : Nat) => m.g e) m.lk m.lc m.lo m.ln m.ct).val n (Int.ofNat 2)) fun (x_1 : Int) => V.br (decide ((↑x.fst : Int) < IntKind.i64.wrap x_1))
    (nN [(2, .lt2 0 1 0 1)]
    (V.br (decide ((↑x.fst : Int) < c.H))
    (nN [(14, .lt2 0 1 0 1), (1, .eqI 4 4), (1, .pf ((↑x.fst : Int) = (↑x.fst : Int)) rfl), (1, .pf (c.H = c.H) rfl), (1, .eqI 1 1)]
    (V.need (okAt (↑x.fst : Int) c.H (Int.ofNat 4) (Int.ofNat 1))
    (nN [(1, .pf (∃ (x_2 : Int), x_2 = Int.ofNat 4 + (↑x.fst : Int) * Int.ofNat 1) ⟨_, rfl⟩)]
    (V.any Int (fun (r : Int) => r = Int.ofNat 4 + (↑x.fst : Int) * Int.ofNat 1) fun (x_2 : Int) => nN [(1, .pf (x_2 = x_2) rfl), (1, .le 1 1), (1, .pf (∀ (i : Nat), i < 1 → 1 ≤ 1) (by intros; exact Nat.le_refl _)), (2, .pf (n = n) rfl), (1, .pf (m.ct = m.ct) rfl), (1, .le 1 1), (1, .pf (∀ (i : Nat), i < 1 → n ≤ n) (by intros; exact Nat.le_refl _)), (1, .pf (∀ (i e : Nat), i < 1 ∧ e < n → m.g e = m.g e) (by intros; rfl)), (1, .pf (∃ (x : Int), x = (Mm.mk (fun (e : Nat) => m.g e) m.lk m.lc m.lo m.ln m.ct).val n x_2) ⟨_, rfl⟩)]
    (V.any Int (fun (v : Int) => v = (Mm.mk (fun (e : Nat) => m.g e) m.lk m.lc m.lo m.ln m.ct).val n x_2) fun (x_3 : Int) => nN [(1, .lt2 0 1 0 1)]
    (V.need (x.fst ≤ x.fst ∧ x.snd = x.snd)
    (V.need (x.fst + 1 ≤ 9223372036854775807 ∧ (x.fst + 1) * 8 ≤ 140737488355328)
    (V.any Nat (fun (x_4 : Nat) => x.fst + 1 ≤ x_4) fun (x_4 : Nat) => V.need ((IntKind.i64.wrap ((↑x.fst : Int) + Int.ofNat 1)).toNat ≤ cntS c.H (m.g 2) ∧ (IntKind.i64.wrap ((↑x.fst : Int) + Int.ofNat 1)).toNat ≤ x_4)
    (V.need (cntS c.H (m.g 2) - (IntKind.i64.wrap ((↑x.fst : Int) + Int.ofNat 1)).toNat < cntS c.H (m.g 2) - x.fst)
    (V.need (x.fst + 1 = (IntKind.i64.wrap ((↑x.fst : Int) + Int.ofNat 1)).toNat)
    (nN [(1, .pf (x_4 = x_4) rfl)]
    (V.need (IntKind.i64.wrap ((↑x.fst : Int) + Int.ofNat 1) = (↑(IntKind.i64.wrap ((↑x.fst : Int) + Int.ofNat 1)).toNat : Int))
    (nN [(1, .pf (x_4 = x_4) rfl)]
    (V.need ((IntKind.i64.wrap ((↑x.fst : Int) + Int.ofNat 1)).toNat ≤ x.fst + 1)
    (V.need (∀ (e : Nat), e < (IntKind.i64.wrap ((↑x.fst : Int) + Int.ofNat 1)).toNat → (if 0 = 0 ∧ e = x.fst then x_3 else m.g (4 + e)) = m.g (4 + e)) V.ok)))))))))))))))
    (V.need (cntS c.H (m.g 2) ≤ x.snd)
    (V.need (x.fst = cntS c.H (m.g 2))
    (nN [(1, .pf (x.snd = x.snd) rfl), (2, .pf (n = n) rfl), (1, .pf (m.lk = m.lk) rfl), (1, .pf (m.lc = m.lc) rfl), (1, .pf (m.lo = m.lo) rfl), (1, .pf (m.ln = m.ln) rfl), (1, .pf (m.ct = m.ct) rfl), (1, .pf (n = n) rfl), (1, .pf (n ≤ n) (Nat.le_refl _)), (1, .pf (∀ (e : Nat), e < n → m.g e = m.g e) (by intros; rfl)), (1, .pf (x.snd = x.snd) rfl)]
    (V.need (cntS c.H (m.g 2) ≤ x.fst)
    (nN [(1, .pf (∀ (e : Nat), e < cntS c.H (m.g 2) → m.g (4 + e) = m.g (4 + e)) (by intros; rfl))] V.ok)))))))
    (V.need (cntS c.H (m.g 2) ≤ x.snd)
    (V.need (x.fst = cntS c.H (m.g 2))
    (nN [(1, .pf (x.snd = x.snd) rfl), (2, .pf (n = n) rfl), (1, .pf (m.lk = m.lk) rfl), (1, .pf (m.lc = m.lc) rfl), (1, .pf (m.lo = m.lo) rfl), (1, .pf (m.ln = m.ln) rfl), (1, .pf (m.ct = m.ct) rfl), (1, .pf (n = n) rfl), (1, .pf (n ≤ n) (Nat.le_refl _)), (1, .pf (∀ (e : Nat), e < n → m.g e = m.g e) (by intros; rfl)), (1, .pf (x.snd = x.snd) rfl)]
    (V.need (cntS c.H (m.g 2) ≤ x.fst)
    (nN [(1, .pf (∀ (e : Nat), e < cntS c.H (m.g 2) → m.g (4 + e) = m.g (4 + e)) (by intros; rfl))] V.ok)))))))))) := by kernel_rfl

theorem vSm_eq (n n2 cap cap2 : Nat) (g g2 : Nat → Int) : vSm n n2 cap cap2 g g2 =
  V.br ((↑n : Int) != (↑n2 : Int))
    (V.need (false = true ↔ n = n2 ∧ ∀ (j : Nat), j < n → g j = g2 j)
    (nN [(1, .pf (false = false) rfl)] V.ok))
    (V.need (0 ≤ n ∧ ∀ (j : Nat), j < 0 → g j = g2 j)
    (V.need (Int.ofNat 0 = (↑0 : Int))
    (V.any Nat (fun (v : Nat) => v ≤ n ∧ ∀ (j : Nat), j < v → g j = g2 j) fun (x : Nat) => V.br (decide ((↑x : Int) < (↑n : Int)))
    (V.need (Int.ofNat 0 ≤ (↑x : Int) ∧ (↑x : Int) < (↑n : Int))
    (V.need (0 < 1 ∧ 0 + (↑x : Int).toNat < n)
    (V.need (0 < 1 ∧ 0 + (↑x : Int).toNat < n)
    (V.need (Int.ofNat 0 ≤ (↑x : Int) ∧ (↑x : Int) < (↑n2 : Int))
    (V.need (0 < 1 ∧ 0 + (↑x : Int).toNat < n2)
    (V.need (0 < 1 ∧ 0 + (↑x : Int).toNat < n2)
    (V.br (g (0 + (↑x : Int).toNat) != g2 (0 + (↑x : Int).toNat))
    (V.need (false = true ↔ n = n2 ∧ ∀ (j : Nat), j < n → g j = g2 j)
    (nN [(1, .pf (false = false) rfl)] V.ok))
    (V.need ((IntKind.i64.wrap ((↑x : Int) + Int.ofNat 1)).toNat ≤ n ∧ ∀ (j : Nat), j < (IntKind.i64.wrap ((↑x : Int) + Int.ofNat 1)).toNat → g j = g2 j)
    (V.need (n - (IntKind.i64.wrap ((↑x : Int) + Int.ofNat 1)).toNat < n - x)
    (V.need (IntKind.i64.wrap ((↑x : Int) + Int.ofNat 1) = (↑(IntKind.i64.wrap ((↑x : Int) + Int.ofNat 1)).toNat : Int)) V.ok))))))))))
    (V.need (true = true ↔ n = n2 ∧ ∀ (j : Nat), j < n → g j = g2 j)
    (nN [(1, .pf (true = true) rfl)] V.ok))))) := by kernel_rfl


end Go.Proofs.Ytomaagmleafjeaa.Md

/- Slots of the injector as a list; lists of words compared: the conditions hold; the contracts. -/
set_option linter.unusedVariables false
set_option linter.unusedSimpArgs false
set_option maxRecDepth 100000
namespace Go.Proofs.Ytomaagmleafjeaa.Md
open Go Go.RowKit Sx Cn Dc Ck Vc
def preSl (c : Cf) (n : Nat) (m : Mm) : Prop := (1 ≤ c.H ∧ c.H ≤ 64) ∧ 4 + c.H ≤ n ∧ 0 ≤ m.g 2 ∧ m.g 2 ≤ 1000
set_option maxHeartbeats 4000000 in
theorem vhSl {c : Cf} {n : Nat} {m : Mm} (h : preSl c n m) : VHolds (vSl c n m) := by
  obtain ⟨hH, hn, hz⟩ := h
  have hc : (cntS c.H (m.g 2) : Int) = min (m.g 2) c.H := by unfold cntS; omega
  constructor
  rw [vSl_eq]
  simp only [Mm.eta]
  (repeat' first | with_reducible refine nN_h rfl ?_ | with_reducible refine V.needI ?_ ?_)
  all_goals first
    | exact ⟨Nat.zero_le _, Nat.le_refl _⟩
    | exact Nat.zero_le _
    | rfl
    | exact fun e h => absurd h (Nat.not_lt_zero _)
    | skip
  refine V.anyI fun x hx => ?_
  obtain ⟨i, cp⟩ := x
  obtain ⟨x1, x2⟩ := hx
  dsimp only at x1 x2 ⊢
  refine nN_h rfl (V.anyI fun z hz2 => ?_)
  have hz2 : IntKind.i64.wrap z = m.g 2 := by rw [hz2, show Int.ofNat 2 = (2 : Int) from rfl, Mm.val_eq (by omega) (by omega), show (2 : Int).toNat = 2 from rfl, w64 (by omega)]
  rw [hz2]
  have END : ¬ (i : Int) < min (m.g 2) c.H → i = cntS c.H (m.g 2) := fun h => by omega
  refine V.brI (fun h => ?_) fun h => ?_
  · have h1 : (i : Int) < m.g 2 := of_decide_eq_true h
    refine nN_h rfl (V.brI (fun h => ?_) fun h => ?_)
    · have h2 : (i : Int) < c.H := of_decide_eq_true h
      have ei : IntKind.i64.wrap ((i : Int) + Int.ofNat 1) = ((i + 1 : Nat) : Int) := wnat (by omega)
      simp only [ei, Int.toNat_natCast]
      refine nN_h rfl (V.needI ⟨⟨by omega, h2⟩, by show 0 ≤ (i : Int) * 1 ∧ (i : Int) * 1 ≤ 1000000; omega, by decide⟩ (nN_h rfl (V.anyI fun r hr => nN_h rfl (V.anyI fun v hv => ?_))))
      have hr : r = 4 + (i : Int) := by rw [hr]; show (4 : Int) + i * 1 = _; omega
      have hv : v = m.g (4 + i) := by rw [hv, hr, Mm.val_eq (by omega) (by omega)]; exact congrArg _ (by omega)
      (repeat' first | with_reducible exact V.okI | with_reducible refine V.brT ?_ | with_reducible refine V.brF ?_ | with_reducible refine V.brI ?_ ?_ | with_reducible refine V.anyI ?_ | with_reducible refine nN_h rfl ?_ | with_reducible refine V.needI ?_ ?_ | with_reducible intro _)
      all_goals first
        | omega
        | trivial
        | exact ⟨Nat.le_refl _, rfl⟩
        | exact ⟨Nat.le_refl _, trivial⟩
        | (rename_i e he
           by_cases ce : e = i
           · subst ce; rw [if_pos ⟨by trivial, rfl⟩, hv]
           · rw [if_neg fun h => ce h.2])
        | skip
    · have h2 : ¬ (i : Int) < c.H := of_decide_eq_false h
      have := END (by omega)
      (repeat' first | with_reducible exact V.okI | with_reducible refine V.brT ?_ | with_reducible refine V.brF ?_ | with_reducible refine V.brI ?_ ?_ | with_reducible refine V.anyI ?_ | with_reducible refine nN_h rfl ?_ | with_reducible refine V.needI ?_ ?_ | with_reducible intro _)
      all_goals first | omega | skip
  · have h1 : ¬ (i : Int) < m.g 2 := of_decide_eq_false h
    have := END (by omega)
    (repeat' first | with_reducible exact V.okI | with_reducible refine V.brT ?_ | with_reducible refine V.brF ?_ | with_reducible refine V.brI ?_ ?_ | with_reducible refine V.anyI ?_ | with_reducible refine nN_h rfl ?_ | with_reducible refine V.needI ?_ ?_ | with_reducible intro _)
    all_goals first | omega | skip
set_option maxHeartbeats 4000000 in
theorem vhSm {n n2 cap cap2 : Nat} {g g2 : Nat → Int} (h : n ≤ 100000) : VHolds (vSm n n2 cap cap2 g g2) := by
  constructor
  rw [vSm_eq]
  refine V.brI (fun h => ?_) fun h => ?_
  · have h : n ≠ n2 := fun e => by rw [e] at h; simp at h
    refine V.needI ⟨fun h => (by cases h), fun q => absurd q.1 h⟩ (nN_h rfl V.okI)
  have e : n = n2 := by
    have : (n : Int) = n2 := by simpa using h
    omega
  subst e
  refine V.needI ⟨Nat.zero_le _, fun j h => absurd h (Nat.not_lt_zero _)⟩ (V.needI rfl (V.anyI fun v hv => V.brI (fun h => ?_) fun h => ?_))
  · have hl : v < n := by have := of_decide_eq_true h; omega
    have ei : IntKind.i64.wrap ((v : Int) + Int.ofNat 1) = ((v + 1 : Nat) : Int) := wnat (by omega)
    simp only [ei, Int.toNat_natCast, Nat.zero_add]
    (repeat' first | with_reducible refine nN_h rfl ?_ | with_reducible refine V.needI ?_ ?_)
    all_goals try first | omega | (simp only [Int.ofNat_eq_natCast, Int.natCast_zero]; omega)
    refine V.brI (fun h => ?_) fun h => ?_
    · have h : g v ≠ g2 v := by simpa using h
      exact V.needI ⟨fun h => (by cases h), fun q => absurd (q.2 v hl) h⟩ (nN_h rfl V.okI)
    · have h : g v = g2 v := by simpa using h
      refine V.needI ⟨by omega, fun j hj => ?_⟩ (V.needI (by omega) (V.needI ?_ V.okI))
      · by_cases c : j = v
        · rw [c]; exact h
        · exact hv.2 j (by omega)
      · trivial
  · have hl : v = n := by have := of_decide_eq_false h; have := hv.1; omega
    exact V.needI ⟨fun _ => ⟨rfl, by rw [← hl]; exact hv.2⟩, fun _ => rfl⟩ (nN_h rfl V.okI)
noncomputable section
def cSl : List SV → Hp → Out (SV × Hp) := fun args H => match args with
  | [.a [x0, x1, x2, x3, x4, x5, x6, x7, x8, .slc kr _ _ _ nP rc, .slc ku _ _ _ nU cu], .c (.ptr ke _ _ _ _)] => match numC x0, numC x1, numC x2, numC x3, numC x4, numC x5, numC x6, numC x7, numC x8, rdMm H.h (scK (bCell ke 22 H.h)) with
    | some W, some L, some C, some T, some D, some h, some B, some A, some Q, some x => fN kr fun kr => fN ku fun ku => fN ke fun ke => fN (scK (bCell ke 22 H.h)) fun km => fN x.kc fun kc =>
        cfBlk H.h kr ku fun kF ln cp o a b f g k => useP [kr, ku, kF, ke, km, kc] 6 [argC ⟨W, L, C, T, D, h, B, A, Q, nP.v, rc.v, nU.v, cu.v, fun e => ln 0 e, fun e => cp 0 e, o, a, b, fun e => f 0 e, fun e => g 0 e, fun e => k 0 e⟩, .c (.ptr 3 (.k 0) (.k 0) 0 26)]
            (hC ⟨W, L, C, T, D, h, B, A, Q, nP.v, rc.v, nU.v, cu.v, fun e => ln 0 e, fun e => cp 0 e, o, a, b, fun e => f 0 e, fun e => g 0 e, fun e => k 0 e⟩ ++ ((3, envZ 4) :: memZ 4 x.len.v x.m))
            (.need (preSl ⟨W, L, C, T, D, h, B, A, Q, nP.v, rc.v, nU.v, cu.v, fun e => ln 0 e, fun e => cp 0 e, o, a, b, fun e => f 0 e, fun e => g 0 e, fun e => k 0 e⟩ x.len.v x.m) (psSl ⟨W, L, C, T, D, h, B, A, Q, nP.v, rc.v, nU.v, cu.v, fun e => ln 0 e, fun e => cp 0 e, o, a, b, fun e => f 0 e, fun e => g 0 e, fun e => k 0 e⟩ x.len.v x.m).out) args H
    | _, _, _, _, _, _, _, _, _, _ => .bad 434
  | _ => .bad 435
theorem cSl_ok : ContractOK P fSl cSl := contract_of_useP fun args H => by
  unfold cSl
  simp only [fN_eq]
  repeat' split
  all_goals first | exact .inl ⟨_, rfl⟩ | exact (cfBlk_ok _ _ _ _).elim .inl fun ⟨_, _, _, _, _, _, _, _, _, e⟩ => .inr ⟨_, _, _, _, _, e, local_of_ps conSl_ok fun h => vhSl h⟩
def colOf (k : Nat) (h : HL) : Option (Nat → Int) := match (find k h).map colsB with
  | some [col] => (colG col).map fun g => fun e => g e
  | _ => none
def cSm : List SV → Hp → Out (SV × Hp) := fun args H => match args with
  | [.c (.slc k _ _ _ n cap), .c (.slc k2 _ _ _ n2 cap2)] => fN k fun k => fN k2 fun k2 => match colOf k H.h, colOf k2 H.h with
    | some g, some g2 => useP [k, k2] 2 [.c (slK 0 1 n.v cap.v), .c (slK 1 1 n2.v cap2.v)] [(0, .view 1 (fun _ => n.v) [.ci .u64 fun _ e => g e]), (1, .view 1 (fun _ => n2.v) [.ci .u64 fun _ e => g2 e])]
        (.need (n.v ≤ 100000) (.any Bool (fun b => b = true ↔ n.v = n2.v ∧ ∀ j, j < n.v → g j = g2 j) fun b => .leaf (.c (.bv b), ⟨[], 2, fun _ => True⟩))) args H
    | _, _ => .bad 432
  | _ => .bad 435
theorem cSm_ok : ContractOK P fSm cSm := contract_of_useP fun args H => by
  unfold cSm
  simp only [fN_eq]
  repeat' split
  all_goals first | exact .inl ⟨_, rfl⟩ | exact .inr ⟨_, _, _, _, _, rfl, local_of_ver ConOK.nil fun h => vhSm h⟩
end
end Go.Proofs.Ytomaagmleafjeaa.Md
