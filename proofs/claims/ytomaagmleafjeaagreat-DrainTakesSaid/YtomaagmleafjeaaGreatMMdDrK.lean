/- Drain alone: the contract; Insert alone. -/
import Derived.Test.YtomaagmleafjeaaGreatMMdDr
import Derived.Test.YtomaagmleafjeaaGreatMMdInK
set_option linter.unusedVariables false
set_option linter.unusedSimpArgs false
set_option linter.unusedVariables false
set_option linter.unusedSimpArgs false
set_option maxRecDepth 100000
namespace Go.Proofs.YtomaagmleafjeaaGreat.Md
open Go Go.RowKit Sx Cn Dc Ck Vc
theorem conDA_ok : ConOK P conDA := .add cMod_ok (.add cCls_ok (.add cBit_ok (.add cCell_ok (conT_ok ConOK.nil))))
def preDr (y : Ly) (B : Int) (n : Nat) (w : Int) (M : Nat) (m : Mm) (l : El) (nc : Nat) : Prop := DrOK y w ∧ M ≤ 1000 ∧ (l.n ≤ nc ∧ l.n ≤ 1000) ∧ ∃ R, drR y n w B M m l = some R
def φDr (y : Ly) (B : Int) (n : Nat) (w : Int) (M : Nat) (m : Mm) (l : El) (r : Re × Nat) : Prop := drR y n w B M m l = some r.1 ∧ r.1.l.n ≤ r.2
noncomputable section
def outDr (y : Ly) (z : Cz) (len cap : NV) (w : Int) (M : Nat) (m : Mm) (l : El) (nc : Nat) : Out (SV × Hp) := .need (preDr y z.B len.v w M m l nc) (.any (Re × Nat) (φDr y z.B len.v w M m l) fun r => .leaf (svRe r.1, ⟨hDe y z len cap r.1 r.2, 8, fun _ => True⟩))
def hD5 (y : Ly) (z : Cz) (len cap : NV) (m : Mm) (l : El) (nc : Nat) (b : Blk) : HL := [(0, envD y z 1 4 l.n nc), (1, .own 75 6 ([.slc 2 (.k 0) (.k 0) 1 len cap, i6 m.lk, i6 m.lc, uw m.lo, uw m.ln, i6 m.ct].map some)), (2, .row 48 cap.v len.v [.ci .u64 fun _ e => m.g e]), (4, .row 47 nc l.n l.v.cols), (5, dumP), (6, dumS), (3, b)]
theorem hD5_e {y : Ly} {z : Cz} {len cap : NV} {m : Mm} {l : El} {nc : Nat} {b : Blk} : HLE (hD5 y z len cap m l nc b) (hD5 y z (.s len.v) (.s cap.v) m l nc b) :=
  ⟨⟨rfl, BlkE.refl _⟩, ⟨rfl, rfl, rfl, (fun _ => rfl : SCe _ _), fun _ => rfl, fun _ => rfl, fun _ => rfl, fun _ => rfl, fun _ => rfl, trivial⟩, ⟨rfl, rfl, rfl, rfl, ColE.refl _, trivial⟩, ⟨rfl, BlkE.refl _⟩, ⟨rfl, BlkE.refl _⟩, ⟨rfl, BlkE.refl _⟩, ⟨rfl, BlkE.refl _⟩, trivial⟩
theorem dr_local {y : Ly} {z : Cz} {len cap : NV} {w : Int} {M : Nat} {m : Mm} {l : El} {nc : Nat} : LocalOK P fAl (argsAl tDr 11 M) (hDr y z len cap m l nc ++ [(3, mDr0 w)]) 7 (outDr y z len cap w M m l nc) := by
  have h0 : LocalOK P fAl (argsAl tDr 11 M) (hDr y z (.s len.v) (.s cap.v) m l nc ++ [(3, mDr0 w)]) 7 (.need (preDr y z.B len.v w M m l nc) (.any (Re × Nat) (fun r => φDr y z.B len.v w M m l r) fun r => .leaf (svRe r.1, ⟨hDe y z (.s len.v) (.s cap.v) r.1 r.2, 8, fun _ => True⟩))) := by
    intro φ1 ρ W vs K hI hvs hpost
    obtain ⟨⟨hy, hM, hl, R, hR⟩, -, hK⟩ := hpost
    exact (local_of_ver (pre := True) conDA_ok fun _ => vhDr (z := z) (n := len.v) (cap := cap.v) hy hM hl hR) φ1 ρ W vs K hI hvs ⟨trivial, ⟨(R, R.l.n), rfl, Nat.le_refl _⟩, fun r hr => hK r ⟨by rw [hr.1]; exact hR, by rw [hr.1]; exact hr.2⟩⟩
  exact (LocalOK.preE (h0 := hDr y z len cap m l nc ++ [(3, mDr0 w)]) h0 hD5_e).same fun K hK =>
    ⟨hK.1, hK.2.1, fun r hr => ⟨svRe r.1, hDe y z len cap r.1 r.2, SVe.refl _, ⟨⟨rfl, BlkE.refl _⟩, ⟨rfl, rfl, rfl, (fun _ => rfl : SCe _ _), fun _ => rfl, fun _ => rfl, fun _ => rfl, fun _ => rfl, fun _ => rfl, trivial⟩, ⟨rfl, rfl, rfl, rfl, ColE.refl _, trivial⟩, ⟨rfl, BlkE.refl _⟩, trivial⟩, hK.2.2 r hr⟩⟩
def kDr (x : AP) (ke kx M : Nat) (h : HL) : List SV → Hp → Out (SV × Hp) := match cellI kx 3 h, cellI ke 6 h, cellI ke 7 h, cellI ke 8 h, bCell ke 9 h, bCell ke 10 h, bCell ke 25 h with
  | some w, some B, some A, some Q, some (.slc kp _ _ _ nP rc), some (.slc ku _ _ _ nU cu), some (.slc kv _ _ _ ne nc) => fN kv fun kv => fN kp fun kp => fN ku fun ku => match rdEv kv h with
    | some ev => useP [ke, x.km, x.kc, kx, kv, kp, ku] 7 (argsAl tDr 11 M) (hDr x.y ⟨B, A, Q, nP.v, rc.v, nU.v, cu.v⟩ x.len x.cap x.m ⟨ne.v, ev⟩ nc.v ++ [(3, mDr0 w)]) (outDr x.y ⟨B, A, Q, nP.v, rc.v, nU.v, cu.v⟩ x.len x.cap w M x.m ⟨ne.v, ev⟩ nc.v)
    | none => fun _ _ => .bad 494
  | _, _, _, _, _, _, _ => fun _ _ => .bad 490
theorem kDr_ok (x : AP) (ke kx M : Nat) (h : HL) (args : List SV) (H : Hp) : (∃ n, kDr x ke kx M h args H = .bad n) ∨ ∃ σ' n args0 h0 post, kDr x ke kx M h args H = useP σ' n args0 h0 post args H ∧ LocalOK P fAl args0 h0 n post := by
  unfold kDr
  rcases cellI kx 3 h with _ | w
  · exact .inl ⟨_, rfl⟩
  rcases cellI ke 6 h with _ | B
  · exact .inl ⟨_, rfl⟩
  rcases cellI ke 7 h with _ | A
  · exact .inl ⟨_, rfl⟩
  rcases cellI ke 8 h with _ | Q
  · exact .inl ⟨_, rfl⟩
  rcases bCell ke 9 h with _ | c1
  · exact .inl ⟨_, rfl⟩
  rcases bCell ke 10 h with _ | c2
  · cases c1 <;> exact .inl ⟨_, rfl⟩
  rcases bCell ke 25 h with _ | c3
  · cases c1 <;> cases c2 <;> exact .inl ⟨_, rfl⟩
  cases c1 with
  | slc kp i e sz nP rc =>
    cases c2 with
    | slc ku i e sz nU cu =>
      cases c3 with
      | slc kv i e sz ne nc =>
        simp only [fN_eq]
        rcases rdEv kv h with _ | ev
        · exact .inl ⟨_, rfl⟩
        · exact .inr ⟨_, _, _, _, _, rfl, dr_local⟩
      | _ => exact .inl ⟨_, rfl⟩
    | _ => exact .inl ⟨_, rfl⟩
  | _ => exact .inl ⟨_, rfl⟩
/-- Alone, by the type of the machine. -/
def cAlZ : List SV → Hp → Out (SV × Hp) := fun args H => match args with
  | [.c (.ptr ke _ _ _ _), .c (.ifc t kx _ _ _ _), .c (.ki .i64 mo)] => fN ke fun ke => fN kx fun kx => fN mo.toNat fun M => match rdAP ke H.h with
    | some x => match Nat.beq t tIns with
      | true => kIns x kx M [ke, x.km, x.kc, kx] H.h args H
      | false => match Nat.beq t tDr with
        | true => kDr x ke kx M H.h args H
        | false => .bad 491
    | none => .bad 492
  | _ => .bad 493
theorem cAlZ_ok : ContractOK P fAl cAlZ := contract_of_useP fun args H => by
  unfold cAlZ
  simp only [fN_eq]
  repeat' split
  all_goals first
    | exact .inl ⟨_, rfl⟩
    | exact kIns_ok _ _ _ _ _ _ _
    | exact kDr_ok _ _ _ _ _ _ _
end
end Go.Proofs.YtomaagmleafjeaaGreat.Md
