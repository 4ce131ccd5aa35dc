/- Take alone: the contract; Push alone. -/
import Derived.Test.YtomaagmleafjeaaMMdTa
import Derived.Test.YtomaagmleafjeaaMMdAlK
set_option linter.unusedVariables false
set_option linter.unusedSimpArgs false
set_option maxRecDepth 100000
namespace Go.Proofs.Ytomaagmleafjeaa.Md
open Go Go.RowKit Sx Cn Dc Ck Vc
def preTa (y : Ly) (n : Nat) (w : Int) (nr M : Nat) (m : Mm) (l : El) (nc : Nat) (st : Nat → Bool) : Prop := TaOK y w ∧ M ≤ 1000 ∧ m.ok ∧ (l.n ≤ nc ∧ l.n ≤ 1000) ∧ ∃ R, taR y n w nr M m l st = some R
def φTa (y : Ly) (n : Nat) (w : Int) (nr M : Nat) (m : Mm) (l : El) (st : Nat → Bool) (r : Rt × Nat) : Prop := taR y n w nr M m l st = some r.1 ∧ r.1.r.l.n ≤ r.2
noncomputable section
def outTa (y : Ly) (len cap : NV) (w : Int) (nr cr M : Nat) (m : Mm) (l : El) (nc : Nat) (st : Nat → Bool) : Out (SV × Hp) := .need (preTa y len.v w nr M m l nc st) (.any (Rt × Nat) (φTa y len.v w nr M m l st) fun r => .leaf (svRe r.1.r, ⟨hTe y len cap nr cr r.1 r.2, 8, fun _ => True⟩))
theorem hTa_e {y : Ly} {len cap : NV} {w : Int} {m : Mm} {l : El} {nc nr cr : Nat} {st : Nat → Bool} : HLE (hTa y len cap w m l nc nr cr st) (hTa y (.s len.v) (.s cap.v) w m l nc nr cr st) :=
  ⟨⟨rfl, BlkE.refl _⟩, ⟨rfl, rfl, rfl, (fun _ => rfl : SCe _ _), fun _ => rfl, fun _ => rfl, fun _ => rfl, fun _ => rfl, fun _ => rfl, trivial⟩, ⟨rfl, rfl, rfl, rfl, ColE.refl _, trivial⟩, ⟨rfl, BlkE.refl _⟩, ⟨rfl, BlkE.refl _⟩, ⟨rfl, BlkE.refl _⟩, ⟨rfl, BlkE.refl _⟩, trivial⟩
theorem ta_local {y : Ly} {len cap : NV} {w : Int} {nr cr M : Nat} {m : Mm} {l : El} {nc : Nat} {st : Nat → Bool} : LocalOK P fAl (argsAl tTa 6 M) (hTa y len cap w m l nc nr cr st) 7 (outTa y len cap w nr cr M m l nc st) := by
  have h0 : LocalOK P fAl (argsAl tTa 6 M) (hTa y (.s len.v) (.s cap.v) w m l nc nr cr st) 7 (.need (preTa y len.v w nr M m l nc st) (.any (Rt × Nat) (fun r => φTa y len.v w nr M m l st r) fun r => .leaf (svRe r.1.r, ⟨hTe y (.s len.v) (.s cap.v) nr cr r.1 r.2, 8, fun _ => True⟩))) := by
    intro φ1 ρ W vs K hI hvs hpost
    obtain ⟨⟨hy, hM, hm, hl, R, hR⟩, -, hK⟩ := hpost
    exact (local_of_ver (pre := True) conTA_ok fun _ => vhTa (n := len.v) (cap := cap.v) hy hM hm hl hR) φ1 ρ W vs K hI hvs ⟨trivial, ⟨(R, R.r.l.n), rfl, Nat.le_refl _⟩, fun r hr => hK r ⟨by rw [hr.1]; exact hR, by rw [hr.1]; exact hr.2⟩⟩
  exact (LocalOK.preE (h0 := hTa y len cap w m l nc nr cr st) h0 hTa_e).same fun K hK =>
    ⟨hK.1, hK.2.1, fun r hr => ⟨svRe r.1.r, hTe y len cap nr cr r.1 r.2, SVe.refl _, ⟨⟨rfl, BlkE.refl _⟩, ⟨rfl, rfl, rfl, (fun _ => rfl : SCe _ _), fun _ => rfl, fun _ => rfl, fun _ => rfl, fun _ => rfl, fun _ => rfl, trivial⟩, ⟨rfl, rfl, rfl, rfl, ColE.refl _, trivial⟩, ⟨rfl, BlkE.refl _⟩, ⟨rfl, BlkE.refl _⟩, trivial⟩, hK.2.2 r hr⟩⟩
def kTa (x : AP) (ke kx M : Nat) (h : HL) : List SV → Hp → Out (SV × Hp) := match cellI kx 3 h, bCell kx 5 h, bCell ke 24 h, bCell ke 25 h with
  | some w, some (.ifc _ ki _ _ _ _), some (.slc kr _ _ _ nr cr), some (.slc kv _ _ _ ne nc) => fN kv fun kv => fN ki fun ki => fN kr fun kr => match rdEv kv h, rdSt kr h with
    | some ev, some st => useP [ke, x.km, x.kc, kx, kv, ki, kr] 7 (argsAl tTa 6 M) (hTa x.y x.len x.cap w x.m ⟨ne.v, ev⟩ nc.v nr.v cr.v st) (outTa x.y x.len x.cap w nr.v cr.v M x.m ⟨ne.v, ev⟩ nc.v st)
    | _, _ => fun _ _ => .bad 494
  | _, _, _, _ => fun _ _ => .bad 490
theorem kTa_ok (x : AP) (ke kx M : Nat) (h : HL) (args : List SV) (H : Hp) : (∃ n, kTa x ke kx M h args H = .bad n) ∨ ∃ σ' n args0 h0 post, kTa x ke kx M h args H = useP σ' n args0 h0 post args H ∧ LocalOK P fAl args0 h0 n post := by
  unfold kTa
  rcases cellI kx 3 h with _ | w
  · exact .inl ⟨_, rfl⟩
  rcases bCell kx 5 h with _ | c1
  · exact .inl ⟨_, rfl⟩
  rcases bCell ke 24 h with _ | c2
  · cases c1 <;> exact .inl ⟨_, rfl⟩
  rcases bCell ke 25 h with _ | c3
  · cases c1 <;> cases c2 <;> exact .inl ⟨_, rfl⟩
  cases c1 with
  | ifc t ki i e f sz =>
    cases c2 with
    | slc kr i e sz nr cr =>
      cases c3 with
      | slc kv i e sz ne nc =>
        simp only [fN_eq]
        rcases rdEv kv h with _ | ev
        · exact .inl ⟨_, rfl⟩
        rcases rdSt kr h with _ | st
        · exact .inl ⟨_, rfl⟩
        · exact .inr ⟨_, _, _, _, _, rfl, ta_local⟩
      | _ => exact .inl ⟨_, rfl⟩
    | _ => exact .inl ⟨_, rfl⟩
  | _ => exact .inl ⟨_, rfl⟩
/-- Alone, by the type of the machine. -/
def cAlU : List SV → Hp → Out (SV × Hp) := fun args H => match args with
  | [.c (.ptr ke _ _ _ _), .c (.ifc t kx _ _ _ _), .c (.ki .i64 mo)] => fN ke fun ke => fN kx fun kx => fN mo.toNat fun M => match rdAP ke H.h with
    | some x => match Nat.beq t tTa with
      | true => kTa x ke kx M H.h args H
      | false => match Nat.beq t tPush with
        | true => kPu x kx M [ke, x.km, x.kc, kx] H.h args H
        | false => .bad 491
    | none => .bad 492
  | _ => .bad 493
theorem cAlU_ok : ContractOK P fAl cAlU := contract_of_useP fun args H => by
  unfold cAlU
  simp only [fN_eq]
  repeat' split
  all_goals first
    | exact .inl ⟨_, rfl⟩
    | exact kTa_ok _ _ _ _ _ _ _
    | exact kPu_ok _ _ _ _ _ _ _
end
end Go.Proofs.Ytomaagmleafjeaa.Md
