/- A step of Take: the contract. -/
import Derived.Test.YtomaagmleafjeaaMMdTs
import Derived.Test.YtomaagmleafjeaaMMdAlB
set_option linter.unusedVariables false
set_option linter.unusedSimpArgs false
set_option maxRecDepth 100000
namespace Go.Proofs.Ytomaagmleafjeaa.Md
open Go Go.RowKit Sx Cn Dc Ck Vc
def preTs (y : Ly) (n : Nat) (w : Int) (q nr nc : Nat) (x : XTa) : Prop := TsOK y n w nr ∧ okS y w q x ∧ (x.l.n ≤ nc ∧ x.l.n ≤ 1000)
noncomputable section
def outTs (y : Ly) (n cap : Nat) (w : Int) (q : Nat) (x : XTa) (nc nr cr : Nat) : Out (SV × Hp) := .need (preTs y n w q nr nc x) (.any (Nat → Bool) (fun b => b = bTs y n w q x) fun b => (psTs y (.s n) (.s cap) w q nr cr b (φTs y w x)).out)
theorem ts_of {y : Ly} {n cap : Nat} {w : Int} {q : Nat} {x : XTa} {nc nr cr : Nat} (h : preTs y n w q nr nc x → VHolds (verTs y n cap w q x nc nr cr (bTs y n w q x) (φTs y w x))) : LocalOK P fTs argTs (h0Ts y (.s n) (.s cap) w q x nc nr cr) 8 (outTs y n cap w q x nc nr cr) := by
  intro φ1 ρ W vs K hI hvs hpost
  obtain ⟨hp, -, hK⟩ := hpost
  exact local_of_ps (pre := True) conTA_ok (fun _ => h hp) φ1 ρ W vs K hI hvs ⟨trivial, hK (bTs y n w q x) rfl⟩
theorem ts_local {y : Ly} {n cap : Nat} {w : Int} {q : Nat} {x : XTa} {nc nr cr : Nat} (hq : q < 4) : LocalOK P fTs argTs (h0Ts y (.s n) (.s cap) w q x nc nr cr) 8 (outTs y n cap w q x nc nr cr) :=
  ts_of fun h => match q, hq with
    | 0, _ => vhTs0 h.1 h.2.1 h.2.2
    | 1, _ => vhTs1 h.1 h.2.1 h.2.2
    | 2, _ => vhTs2 h.1 h.2.1 h.2.2
    | 3, _ => vhTs3 h.1 h.2.1 h.2.2
/-- A block that holds nothing. -/
def findZ : HL → Nat
  | [] => 0
  | (k, b) :: r => match b with
    | .fam _ _ _ _ [] => k
    | .view _ _ [] => k
    | _ => findZ r
def rdXp (q k5 k6 : Nat) (h : HL) (m : Mm) : Option (XPo × Int) := match q with
  | 3 => match cellI k5 4 h with
    | some v => some (noPo 0 m, v)
    | none => none
  | q => match cellI k5 4 h with
    | some lv => match q with
      | 0 => some (⟨lv, 0, 0, 0, 0, 0, 0, 0, 0, m⟩, 0)
      | 1 => match cellI k6 3 h, cellI k6 4 h, cellI k6 5 h, cellI k6 6 h, cellI k6 7 h, cellI k6 8 h, cellI k6 9 h with
        | some a, some b, some c, some d, some l, some u, some v => some (⟨lv, a, b, c, d, l, u, v, 0, m⟩, 0)
        | _, _, _, _, _, _, _ => none
      | _ => match cellI k6 5 h, cellI k6 6 h, cellI k6 7 h, cellI k6 8 h, cellI k6 9 h, cellI k6 10 h with
        | some a, some b, some c, some d, some l, some u => some (⟨lv, a, b, c, d, l, u, 0, 0, m⟩, 0)
        | _, _, _, _, _, _ => none
    | none => none
def kTs (a : AP) (q ke kx k5 k6 : Nat) (h : HL) (args : List SV) (H : Hp) : Out (SV × Hp) := match cellI kx 3 h, bCell ke 24 h, bCell ke 25 h, rdXp q k5 k6 h a.m with
  | some w, some (.slc kr _ _ _ nr cr), some (.slc kv _ _ _ ne nc), some z => fN kv fun kv => fN kr fun kr => match rdEv kv h, rdSt kr h, Nat.blt q 4 with
    | some ev, some st, true => useP [ke, a.km, a.kc, kx, kv, k5, k6, kr] 8 argTs (h0Ts a.y (.s a.len.v) (.s a.cap.v) w q ⟨z.1, ⟨ne.v, ev⟩, fun i => st i, z.2⟩ nc.v nr.v cr.v) (outTs a.y a.len.v a.cap.v w q ⟨z.1, ⟨ne.v, ev⟩, fun i => st i, z.2⟩ nc.v nr.v cr.v) args H
    | _, _, _ => .bad 500
  | _, _, _, _ => .bad 501
theorem kTs_ok (a : AP) (q ke kx k5 k6 : Nat) (h : HL) (args : List SV) (H : Hp) : (∃ n, kTs a q ke kx k5 k6 h args H = .bad n) ∨ ∃ σ' n args0 h0 post, kTs a q ke kx k5 k6 h args H = useP σ' n args0 h0 post args H ∧ LocalOK P fTs args0 h0 n post := by
  unfold kTs
  simp only [fN_eq]
  split
  · split
    · rename_i hb
      exact .inr ⟨_, _, _, _, _, rfl, ts_local (by simpa using hb)⟩
    · exact .inl ⟨_, rfl⟩
  · exact .inl ⟨_, rfl⟩
/-- A step of Take, by the state that the machine is in. -/
def cTs : List SV → Hp → Out (SV × Hp) := fun args H => match args with
  | [.c (.ptr kx _ _ _ _), .c (.ptr ke _ _ _ _)] => fN kx fun kx => fN ke fun ke => fN (ifK kx 5 H.h) fun k5 => match rdAP ke H.h with
    | some a => match Nat.beq (ifT kx 5 H.h) tCla with
      | true => fN (findZ H.h) fun k6 => kTs a 3 ke kx k5 k6 H.h args H
      | false => match Nat.beq (ifT k5 6 H.h) tPopO with
        | true => fN (ifK k5 6 H.h) fun k6 => kTs a 1 ke kx k5 k6 H.h args H
        | false => match Nat.beq (ifT k5 6 H.h) tClr with
          | true => fN (ifK k5 6 H.h) fun k6 => kTs a 2 ke kx k5 k6 H.h args H
          | false => fN (findZ H.h) fun k6 => kTs a 0 ke kx k5 k6 H.h args H
    | none => .bad 502
  | _ => .bad 503
theorem cTs_ok : ContractOK P fTs cTs := contract_of_useP fun args H => by
  unfold cTs
  simp only [fN_eq]
  repeat' split
  all_goals first
    | exact .inl ⟨_, rfl⟩
    | exact kTs_ok _ _ _ _ _ _ _ _ _
end
end Go.Proofs.Ytomaagmleafjeaa.Md
