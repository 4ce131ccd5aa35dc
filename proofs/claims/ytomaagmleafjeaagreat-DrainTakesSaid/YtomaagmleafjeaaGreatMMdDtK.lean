/- Drain alone with a filled injector: the contract. -/
import Derived.Test.YtomaagmleafjeaaGreatMMdDtF
import Derived.Test.YtomaagmleafjeaaGreatMMdAw23
set_option linter.unusedVariables false
set_option linter.unusedSimpArgs false
set_option linter.unusedVariables false
set_option linter.unusedSimpArgs false
set_option maxRecDepth 100000
namespace Go.Proofs.YtomaagmleafjeaaGreat.Md
open Go Go.RowKit Sx Cn Dc Ck Vc
structure preDt (D B : Int) (N : Nat) (g : Nat → Int) (y : Ly) (Bz : Int) (n : Nat) (w : Int) (M : Nat) (m : Mm) (l : El) (nc : Nat) : Prop where
  hy : y = yF D y.tb
  hBz : Bz = B
  hw : w = 0
  hM : M = 400
  hD : 1 ≤ D ∧ D ≤ 64
  hn : (n : Int) = 61 + 3 * D
  ht : y.tb = 15 + 3 * (2 + D)
  hN : N ≤ 8
  hg : ∀ u, u < N → 0 ≤ g u
  hb : 1 ≤ B ∧ B ≤ D
  fi : FI y.tb g N m
  hl : l.n = 0
def φDz (r : Re × Nat) : Prop := r.1.c = 2 ∧ r.1.l.n = 0 ∧ r.1.m.g 1 = 0 ∧ r.1.m.g 2 = 0 ∧ r.1.l.n ≤ r.2
def φDt (D tb B : Int) (n N : Nat) (g : Nat → Int) (r : Re × Nat) : Prop := r.1.c = 0 ∧ r.1.m.g 1 = 0 ∧ (∃ (K : Nat) (tk : Nat → Nat) (S : Nat → Nat → Int), (K : Int) = min B N ∧ r.1.v = K ∧ DI D tb n N g K r.1.m r.1.l tk S) ∧ r.1.l.n ≤ r.2
noncomputable section
def svDt (c : Int) (r : Re) : SV := .t [.c (.ki .i64 c), .c (i6 r.v), .c (i6 r.k)]
def outDt (D B : Int) (N : Nat) (g : Nat → Int) (y : Ly) (z : Cz) (len cap : NV) (w : Int) (M : Nat) (m : Mm) (l : El) (nc : Nat) : Out (SV × Hp) := .need (preDt D B N g y z.B len.v w M m l nc) (.br (decide (N = 0))
  (.any (Re × Nat) φDz fun r => .leaf (svDt 2 r.1, ⟨hDe y z len cap r.1 r.2, 8, fun _ => True⟩))
  (.any (Re × Nat) (φDt D y.tb B len.v N g) fun r => .leaf (svDt 0 r.1, ⟨hDe y z len cap r.1 r.2, 8, fun _ => True⟩)))
theorem svDt_e {r : Re} {c : Int} (h : r.c = c) : SVe (svRe r) (svDt c r) := fun ρ => by
  subst h
  rfl
theorem dt_local {D B : Int} {N : Nat} {g : Nat → Int} {y : Ly} {z : Cz} {len cap : NV} {w : Int} {M : Nat} {m : Mm} {l : El} {nc : Nat} : LocalOK P fAl (argsAl tDr 11 M) (hDr y z len cap m l nc ++ [(3, mDr0 w)]) 7 (outDt D B N g y z len cap w M m l nc) := by
  refine (dr_local (y := y) (z := z) (len := len) (cap := cap) (w := w) (M := M) (m := m) (l := l) (nc := nc)).same fun K hK => ?_
  obtain ⟨hp, hT, hF⟩ := hK
  have hy := hp.hy
  have hD := hp.hD
  have ht := hp.ht
  have dOK : DrOK (yF D y.tb) 0 := drOKF hD (by omega)
  obtain ⟨R, r1, r2, r3, r4⟩ := drain_all (B := B) (M := 400) hD hp.hn hp.ht hp.hN hp.hg hp.hb hp.fi hp.hl (Nat.le_refl _)
  have r1 : drR y len.v w z.B M m l = some R := by rw [hp.hw, hp.hBz, hp.hM, hy]; exact r1
  refine ⟨⟨by rw [hp.hw, hy]; exact dOK, by rw [hp.hM]; decide, ⟨by rw [hp.hl]; exact Nat.zero_le _, by rw [hp.hl]; decide⟩, R, r1⟩, ⟨(R, R.l.n), r1, Nat.le_refl _⟩, fun r hr => ?_⟩
  obtain ⟨r, nr⟩ := r
  obtain ⟨hr, hnr⟩ := hr
  obtain rfl : R = r := Option.some.inj (r1.symm.trans hr)
  by_cases h0 : N = 0
  · obtain ⟨a1, a2, a3, a4⟩ := r3 h0
    obtain ⟨-, hT⟩ := hT (decide_eq_true h0)
    exact ⟨_, _, svDt_e a1, HLE.refl _, hT (R, nr) ⟨a1, a2, r2, a3, hnr⟩⟩
  · obtain ⟨K', tk, S, b1, b2, b3, b4⟩ := r4 h0
    obtain ⟨-, hF⟩ := hF (decide_eq_false h0)
    exact ⟨_, _, svDt_e b2, HLE.refl _, hF (R, nr) ⟨b2, r2, ⟨K', tk, S, b1, b3, b4⟩, hnr⟩⟩
def kDt (D B : Int) (N : Nat) (g : Nat → Int) (x : AP) (ke kx M : Nat) (h : HL) : List SV → Hp → Out (SV × Hp) := match cellI kx 3 h, cellI ke 6 h, cellI ke 7 h, cellI ke 8 h, bCell ke 9 h, bCell ke 10 h, bCell ke 25 h with
  | some w, some Bz, some A, some Q, some (.slc kp _ _ _ nP rc), some (.slc ku _ _ _ nU cu), some (.slc kv _ _ _ ne nc) => fN kv fun kv => fN kp fun kp => fN ku fun ku => match rdEv kv h with
    | some ev => useP [ke, x.km, x.kc, kx, kv, kp, ku] 7 (argsAl tDr 11 M) (hDr x.y ⟨Bz, A, Q, nP.v, rc.v, nU.v, cu.v⟩ x.len x.cap x.m ⟨ne.v, ev⟩ nc.v ++ [(3, mDr0 w)]) (outDt D B N g x.y ⟨Bz, A, Q, nP.v, rc.v, nU.v, cu.v⟩ x.len x.cap w M x.m ⟨ne.v, ev⟩ nc.v)
    | none => fun _ _ => .bad 494
  | _, _, _, _, _, _, _ => fun _ _ => .bad 490
theorem kDt_ok (D B : Int) (N : Nat) (g : Nat → Int) (x : AP) (ke kx M : Nat) (h : HL) (args : List SV) (H : Hp) : (∃ n, kDt D B N g x ke kx M h args H = .bad n) ∨ ∃ σ' n args0 h0 post, kDt D B N g x ke kx M h args H = useP σ' n args0 h0 post args H ∧ LocalOK P fAl args0 h0 n post := by
  unfold kDt
  rcases cellI kx 3 h with _ | w
  · exact .inl ⟨_, rfl⟩
  rcases cellI ke 6 h with _ | Bz
  · exact .inl ⟨_, rfl⟩
  rcases cellI ke 7 h with _ | A
  · exact .inl ⟨_, rfl⟩
  rcases cellI ke 8 h with _ | Q
  · exact .inl ⟨_, rfl⟩
  rcases bCell ke 9 h with _ | c1
  · exact .inl ⟨_, rfl⟩
  rcases bCell ke 10 h with _ | c2
  · cases c1 <;> exact .inl ⟨_, rfl⟩
  rcases bCell ke 25 h with _ | c3
  · cases c1 <;> cases c2 <;> exact .inl ⟨_, rfl⟩
  cases c1 with
  | slc kp i e sz nP rc =>
    cases c2 with
    | slc ku i e sz nU cu =>
      cases c3 with
      | slc kv i e sz ne nc =>
        simp only [fN_eq]
        rcases rdEv kv h with _ | ev
        · exact .inl ⟨_, rfl⟩
        · exact .inr ⟨_, _, _, _, _, rfl, dt_local⟩
      | _ => exact .inl ⟨_, rfl⟩
    | _ => exact .inl ⟨_, rfl⟩
  | _ => exact .inl ⟨_, rfl⟩
def cAlT (D B : Int) (N : Nat) (g : Nat → Int) : List SV → Hp → Out (SV × Hp) := fun args H => match args with
  | [.c (.ptr ke _ _ _ _), .c (.ifc t kx _ _ _ _), .c (.ki .i64 mo)] => fN ke fun ke => fN kx fun kx => fN mo.toNat fun M => match rdAP ke H.h with
    | some x => match Nat.beq t tDr with
      | true => kDt D B N g x ke kx M H.h args H
      | false => .bad 491
    | none => .bad 492
  | _ => .bad 493
theorem cAlT_ok (D B : Int) (N : Nat) (g : Nat → Int) : ContractOK P fAl (cAlT D B N g) := contract_of_useP fun args H => by
  unfold cAlT
  simp only [fN_eq]
  repeat' split
  all_goals first
    | exact .inl ⟨_, rfl⟩
    | exact kDt_ok _ _ _ _ _ _ _ _ _ _ _
end
end Go.Proofs.YtomaagmleafjeaaGreat.Md
