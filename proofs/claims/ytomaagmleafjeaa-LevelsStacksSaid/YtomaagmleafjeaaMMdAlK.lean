/- Machines that run alone: the contract of Alone. -/
import Derived.Test.YtomaagmleafjeaaMMdPu
import Derived.Test.YtomaagmleafjeaaMMd
set_option linter.unusedVariables false
set_option linter.unusedSimpArgs false
set_option linter.unusedVariables false
set_option linter.unusedSimpArgs false
set_option maxRecDepth 100000
namespace Go.Proofs.Ytomaagmleafjeaa.Md
open Go Go.RowKit Sx Cn Dc Ck Vc
/-- A contract said of blocks of which the same is known. -/
theorem LocalOK.preE {P : Program} {f : FuncId} {args : List SV} {h0 h1 : HL} {n : Nat} {post : Out (SV × Hp)} (h : LocalOK P f args h1 n post) (he : HLE h0 h1) : LocalOK P f args h0 n post := fun φ ρ w vs K hi hv hh =>
  (h φ ρ w vs K (hi.same he) hv hh).mono (by
    rintro e w' ⟨v, ρ', sv, H', a1, a2, a3, a4, a5, a6⟩
    exact ⟨v, ρ', sv, H', a1, a2, a3, ⟨a4.nxt, a4.D⟩, a5, a6⟩)
noncomputable section
def outAl (len cap : NV) (p : Prop) (R : Rs) : Out (SV × Hp) := .need p (.any Rs (fun r => r = R) fun r => .leaf (svRs r, ⟨hRs len cap r, 4, fun _ => True⟩))
end
noncomputable def hA4 (y : Ly) (len cap : NV) (m : Mm) (b : Blk) : HL := [(0, envV y 1), (1, .own 141 6 ([.slc 2 (.k 0) (.k 0) 1 len cap, i6 m.lk, i6 m.lc, uw m.lo, uw m.ln, i6 m.ct].map some)), (2, .row 58 cap.v len.v [.ci .u64 fun _ e => m.g e]), (3, b)]
theorem hA4_e {y : Ly} {len cap : NV} {m : Mm} {b : Blk} : HLE (hA4 y len cap m b) (hA4 y (.s len.v) (.s cap.v) m b) :=
  ⟨⟨rfl, BlkE.refl _⟩, ⟨rfl, rfl, rfl, (fun _ => rfl : SCe _ _), fun _ => rfl, fun _ => rfl, fun _ => rfl, fun _ => rfl, fun _ => rfl, trivial⟩, ⟨rfl, rfl, rfl, rfl, ColE.refl _, trivial⟩, ⟨rfl, BlkE.refl _⟩, trivial⟩
theorem al_nv {f : FuncId} {args : List SV} {y : Ly} {len cap : NV} {m : Mm} {b : Blk} {p : Prop} {R : Rs} (h : LocalOK P f args (hAl y (.s len.v) (.s cap.v) m ++ [(3, b)]) 4 (outAl (.s len.v) (.s cap.v) p R)) : LocalOK P f args (hAl y len cap m ++ [(3, b)]) 4 (outAl len cap p R) :=
  (LocalOK.preE (h0 := hAl y len cap m ++ [(3, b)]) h hA4_e).same fun K hK =>
    ⟨hK.1, ⟨R, rfl⟩, fun r hr => ⟨svRs r, hRs len cap r, SVe.refl _, ⟨⟨rfl, rfl, rfl, (fun _ => rfl : SCe _ _), fun _ => rfl, fun _ => rfl, fun _ => rfl, fun _ => rfl, fun _ => rfl, trivial⟩, ⟨rfl, rfl, rfl, rfl, ColE.refl _, trivial⟩, trivial⟩, hK.2.2 r hr⟩⟩
/-- What is known of an environment whose layout and memory are read. -/
structure AP where
  y : Ly
  km : Nat
  kc : Nat
  len : NV
  cap : NV
  m : Mm
noncomputable section
def rdLy (k : Nat) (h : HL) : Option Ly := match cellI k 11 h, cellI k 12 h, cellI k 13 h, cellI k 14 h, cellI k 15 h, cellI k 16 h, cellI k 17 h, cellI k 18 h, cellI k 19 h, cellI k 20 h, cellI k 21 h with
  | some a, some b, some c, some d, some e, some f, some g, some i, some j, some l, some o => some ⟨a, b, c, d, e, f, g, i, j, l, o⟩
  | _, _, _, _, _, _, _, _, _, _, _ => none
def rdAP (k : Nat) (h : HL) : Option AP := fN (scK (bCell k 22 h)) fun km => match rdLy k h, rdMm h km with
  | some y, some x => some ⟨y, km, x.kc, x.len, x.cap, x.m⟩
  | _, _ => none
def fAl : FuncId := 35
def pPo (x : AP) (w : Int) (M : Nat) : Prop := (x.y.small ∧ okAtT w x.y.W x.y.bm 1) ∧ M ≤ 1000 ∧ x.m.ok
def pPu (x : AP) (w : Int) (M : Nat) : Prop := (x.y.small ∧ okAtT w x.y.W x.y.bm 1) ∧ M ≤ 1000
def kPo (x : AP) (kx M : Nat) (σ : List Nat) (h : HL) : List SV → Hp → Out (SV × Hp) := match cellI kx 3 h with
  | some w => useP σ 4 (argsAl tPop 7 M) (hAl x.y x.len x.cap x.m ++ [(3, mPop w 0 (.ki .i64 1) .nilI)]) (outAl x.len x.cap (pPo x w M) (popR x.y x.len.v w M x.m))
  | none => fun _ _ => .bad 490
def kPu (x : AP) (kx M : Nat) (σ : List Nat) (h : HL) : List SV → Hp → Out (SV × Hp) := match cellI kx 3 h, cellI kx 4 h, cellI kx 5 h with
  | some w, some l, some v => useP σ 4 (argsAl tPush 8 M) (hAl x.y x.len x.cap x.m ++ [(3, mPu w l v (.ki .i64 1) .nilI)]) (outAl x.len x.cap (pPu x w M) (puR x.y x.len.v w l v M x.m))
  | _, _, _ => fun _ _ => .bad 490
/-- Alone, by the type of the machine. -/
def cAl : List SV → Hp → Out (SV × Hp) := fun args H => match args with
  | [.c (.ptr ke _ _ _ _), .c (.ifc t kx _ _ _ _), .c (.ki .i64 mo)] => fN ke fun ke => fN kx fun kx => fN mo.toNat fun M => match rdAP ke H.h with
    | some x => match Nat.beq t tPop with
      | true => kPo x kx M [ke, x.km, x.kc, kx] H.h args H
      | false => match Nat.beq t tPush with
        | true => kPu x kx M [ke, x.km, x.kc, kx] H.h args H
        | false => .bad 491
    | none => .bad 492
  | _ => .bad 493
theorem kPo_ok (x : AP) (kx M : Nat) (σ : List Nat) (h : HL) (args : List SV) (H : Hp) : (∃ n, kPo x kx M σ h args H = .bad n) ∨ ∃ σ' n args0 h0 post, kPo x kx M σ h args H = useP σ' n args0 h0 post args H ∧ LocalOK P fAl args0 h0 n post := by
  unfold kPo
  rcases cellI kx 3 h with _ | w
  · exact .inl ⟨_, rfl⟩
  · exact .inr ⟨_, _, _, _, _, rfl, al_nv (local_of_ver conTA_ok fun h => vhPo h.1.1 h.1.2 h.2.1 h.2.2)⟩
theorem kPu_ok (x : AP) (kx M : Nat) (σ : List Nat) (h : HL) (args : List SV) (H : Hp) : (∃ n, kPu x kx M σ h args H = .bad n) ∨ ∃ σ' n args0 h0 post, kPu x kx M σ h args H = useP σ' n args0 h0 post args H ∧ LocalOK P fAl args0 h0 n post := by
  unfold kPu
  rcases cellI kx 3 h with _ | w
  · exact .inl ⟨_, rfl⟩
  rcases cellI kx 4 h with _ | l
  · exact .inl ⟨_, rfl⟩
  rcases cellI kx 5 h with _ | v
  · exact .inl ⟨_, rfl⟩
  · exact .inr ⟨_, _, _, _, _, rfl, al_nv (local_of_ver conTA_ok fun h => vhPu h.1.1 h.1.2 h.2)⟩
theorem cAl_ok : ContractOK P fAl cAl := contract_of_useP fun args H => by
  unfold cAl
  simp only [fN_eq]
  repeat' split
  all_goals first
    | exact .inl ⟨_, rfl⟩
    | exact kPo_ok _ _ _ _ _ _ _
    | exact kPu_ok _ _ _ _ _ _ _
end
end Go.Proofs.Ytomaagmleafjeaa.Md
