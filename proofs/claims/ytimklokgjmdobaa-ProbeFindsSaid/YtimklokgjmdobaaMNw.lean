/- machine.New, with what is known of the configuration: the contract. -/
import Derived.Test.YtimklokgjmdobaaML
import Derived.Test.YtimklokgjmdobaaMW
set_option linter.unusedVariables false
set_option linter.unusedSimpArgs false
set_option maxRecDepth 100000
namespace Go.Proofs.Ytimklokgjmdobaa.Vc
open Go Go.RowKit Sx Cn Dc Ck
structure Mk where
  w : Bool
  l : Bool
  c : Bool
  t : Bool
  d : Bool
  h : Bool
  b : Bool
  a : Bool
  p : Bool
def kiB : SC → Bool
  | .ki _ _ => true
  | _ => false
noncomputable section
def cfK (m : Mk) (k0 k1 : Nat) (c d : Cf) : List SC := [knI m.w .i64 c.W, knI m.l .i64 c.L, knI m.c .i64 c.C, knI m.t .i64 c.T, knI m.d .i64 c.D, knI m.h .i64 c.H, knI m.b .i64 c.B, knI m.a .i64 c.A, knI m.p .i64 c.P, slK k0 1 d.nP d.rc, slK k1 3 d.nU d.cu]
def layK (m : Mk) (c : Cf) : List SC := [knI m.w .i64 c.W, knI m.l .i64 c.L, knI m.c .i64 c.C, knI m.t .i64 c.T, knI m.d .i64 c.D, knI m.h .i64 c.H, knI m.h .i64 (lS c), knI (m.h && m.c) .i64 (lE c), knI (m.h && (m.c && m.w)) .i64 (lB c), knI (m.h && (m.c && m.w)) .i64 (lQ c), knI (m.h && (m.c && (m.w && (m.l && m.d)))) .i64 (lT c)]
def slN (b b' : Bool) (k sz n cap : Nat) : SC := .slc k (.k 0) (.k 0) sz (knN b n) (knN b' cap)
def envK (k0 k1 km kc kr : Nat) (m : Mk) (c d : Cf) (rn rc : Nat) : Blk := .own 40 26 ((cfK m k0 k1 c d ++ layK m c ++ [.ptr km (.k 0) (.k 0) 0 6, .ptr kc (.k 0) (.k 0) 0 2, slN m.t false kr 7 rn rc, .nils]).map some)
def memK (k : Nat) (b : Bool) (n : Nat) : Blk := .own 72 6 ([slN b b k 1 n n, .ki .i64 0, .ki .i64 0, .ki .u64 0, .ki .u64 0, .ki .i64 0].map some)
def repK (b : Bool) (n : Nat) (x : SC) : Col := match b with | true => .ck (List.replicate n x) | false => .cc x
theorem repK_e {b : Bool} {n : Nat} {x : SC} {col : Col} (h : ColE col (.cc x)) : ColE col (repK b n x) := by
  cases b with
  | false => exact h
  | true =>
    intro i e c' hc
    simp only [repK, Col.get, List.getElem?_replicate] at hc
    split at hc
    · exact h i e c' hc
    · cases hc
def zeroK (b : Bool) (n : Nat) : Blk := .row 43 n n [repK b n (.ki .u64 0)]
def clkK : Blk := .own 68 2 [some (.ki .i64 0), some (.ki .i64 0)]
def freshK (b : Bool) (n c : Nat) : Blk := .row 62 c n [repK b n (.ki .i64 0), repK b n (.ki .i64 (-1)), repK b n (.ki .i64 0), repK b n (.ki .i64 0), repK b n (.ki .i64 (-1)), repK b n .nils, repK b n (.kb false)]
def Mk.n (m : Mk) : Bool := m.h && (m.c && (m.w && (m.l && (m.d && m.t))))
def knN' {β : Type 1} (b : Bool) (n : Nat) (k : Nat → β) : β := match b with | true => fN n k | false => k n
theorem knN_eq {β : Type 1} (b : Bool) (n : Nat) (k : Nat → β) : knN' b n k = k n := by cases b <;> simp [knN']
end
end Go.Proofs.Ytimklokgjmdobaa.Vc

/- Config of the statements: the contract; what few bytes say. -/
set_option maxRecDepth 100000
namespace Go.Proofs.Ytimklokgjmdobaa.Vc
open Go Go.RowKit Sx Cn Dc Ck
section
variable {g : Nat → Int} {len : Nat}
theorem rd_far (h : len ≤ 9) {p : Nat} (hp : 9 ≤ p) (k : Int) : rd g len p k = 0 := by unfold rd; rw [if_neg (by omega)]
theorem cnt_far (h : len ≤ 9) {p : Nat} (hp : 9 ≤ p) : cnt g len p = 0 := by unfold cnt; rw [rd_far h hp]; rfl
theorem pS_far (h : len ≤ 9) : ∀ i, 9 ≤ pS g len i
  | 0 => by show 9 ≤ 10; omega
  | i + 1 => by
    have ih := pS_far h i
    show 9 ≤ pI g len (pS g len i) (cnt g len (pS g len i))
    rw [cnt_far h ih]
    show 9 ≤ pS g len i + 1
    omega
theorem lenP_far (h : len ≤ 9) (e : Nat) : lenP g len e = 0 := cnt_far h (pS_far h e)
theorem nP_far (h : len ≤ 9) : nP g len = 1 := by unfold nP dN; rw [rd_far h (Nat.le_refl _)]; rfl
theorem nU_far (h : len ≤ 9) : nU g len = 0 := cnt_far h (pS_far h _)
end
def c9 (g : Nat → Int) (len : Nat) (FC : Nat → Nat) (rc cu : Nat) : Cf := ⟨dW g len, dL g len, dC g len, dT g len, dD g len, dH g len, dB g len, dA g len, dP g len, 1, rc, 0, cu, fun _ => 0, fun e => FC e, fun i e => cO g len i e, fun i e => cA g len i e, fun i e => cB g len i e, fun e => uP g len e, fun e => uL g len e, fun e => uD g len e⟩
theorem dec9 {g : Nat → Int} {len : Nat} (h : len ≤ 9) (FC : Nat → Nat) (rc cu : Nat) : decOf g len FC rc cu = c9 g len FC rc cu := by
  unfold decOf c9
  rw [nP_far h, nU_far h]
  simp only [lenP_far h]
theorem isDec9 {g : Nat → Int} {len : Nat} (h : len ≤ 9) {d : Cf} (hd : IsDec g len d) : ∃ FC rc cu, 1 ≤ rc ∧ d = c9 g len FC rc cu := by
  obtain ⟨FC, rc, cu, hb, rfl⟩ := hd
  exact ⟨FC, rc, cu, by have := hb.2.1; rwa [nP_far h] at this, dec9 h FC rc cu⟩
theorem err9 {c : Cf} (hn : okN c) (hP : c.nP = 1) (hl : c.lenP 0 = 0) (hU : c.nU = 0) : errE c = 0 := (err_zero c).2 ⟨hn, ⟨by omega, fun i hi => by
  have : i = 0 := by omega
  subst this
  exact ⟨by omega, fun e he => by omega⟩⟩, by omega, fun e he => by omega⟩
noncomputable section
def g0 : Nat → Int := fun _ => 0
def rdC1 (s : SV) (H : Hp) : Option Cf := (rdCf s H.h).map (·.1)
def LC1 (s : SV) (H : Hp) : List Nat := match rdCf s H.h with | some x => x.2 | none => []
def conDe : Con := Con.add 15 conDec con0
theorem conDe_ok : ConOK P conDe := .add conDec_ok ConOK.nil
def verCfg0 : V := verF P conDe 3 3 4 [(0, .nilTmp 0 5 1 [.ci .u8 fun _ _ => 0])] .nil [.c .nils] ⟨[], 0, fun _ => True⟩ (finV 0 3 rdC1 LC1 (IsDec (fun _ => 0) 0) (argCm 0) (hOwn 0))
def verCfg (g : Nat → Int) (len cap : Nat) : V := verF P conDe 3 3 4 [] .nil [.c (slK 0 1 len cap)] ⟨[(0, ints .u8 len g)], 1, fun _ => True⟩ (finV 1 4 rdC1 LC1 (IsDec g len) (argCm 1) (hOwn 1))
def outCfg (n : Nat) (g : Nat → Int) (len : Nat) : Out (SV × Hp) := .need (U8 len g) (.any Cf (IsDec g len) fun d => .leaf (argCm n d, ⟨hOwn n d, n + 3, fun _ => True⟩))
def outCfgK (n : Nat) (g : Nat → Int) (len : Nat) : Out (SV × Hp) := .need (U8 len g ∧ len ≤ 9) (.any (Nat × Nat × (Nat → Nat)) (fun x => 1 ≤ x.1) fun x => .leaf (.a [.ki .i64 (dW g len), .ki .i64 (dL g len), .ki .i64 (dC g len), .ki .i64 (dT g len), .ki .i64 (dD g len), .ki .i64 (dH g len), .ki .i64 (dB g len), .ki .i64 (dA g len), .ki .i64 (dP g len), slN true false n 1 1 x.1, slN true false (n + 1) 3 0 x.2.1],
  ⟨hOwn n (c9 g len x.2.2 x.1 x.2.1), n + 3, fun _ => True⟩))
theorem cfg_same (n : Nat) (g : Nat → Int) (len : Nat) (K : SV × Hp → Prop) (h : (outCfgK n g len).holds K) : (outCfg n g len).holds (fun r => ∃ sv h', SVe r.1 sv ∧ HLE r.2.h h' ∧ K (sv, ⟨h', r.2.nxt, r.2.D⟩)) := by
  obtain ⟨⟨hu, h9⟩, _, hK⟩ := h
  refine ⟨hu, ⟨_, fun e => lenP g len e, nP g len, nU g len, ⟨fun _ _ => Nat.le_refl _, Nat.le_refl _, Nat.le_refl _⟩, rfl⟩, fun d hd => ?_⟩
  obtain ⟨FC, rc, cu, hr, rfl⟩ := isDec9 h9 hd
  refine ⟨_, _, ?_, HLE.refl _, hK (rc, cu, FC) hr⟩
  refine sve_a ?_
  repeat' first
    | exact slc_e _ _ _ _ _ _ _ _
    | exact fun _ => rfl
    | exact (show True from trivial)
    | (show SCe _ _ ∧ Fa SCe _ _; constructor)
def bytesL (l : List SC) : Option (Nat → Int) := match l.all kiB with
  | true => some fun e => match l[e]? with | some (.ki _ n) => n | _ => 0
  | false => none
end
end Go.Proofs.Ytimklokgjmdobaa.Vc

/- Config of the statements: the conditions, printed by program. -/
set_option maxRecDepth 100000
namespace Go.Proofs.Ytimklokgjmdobaa.Vc
open Go Go.RowKit Sx Cn Dc Ck

theorem verCfg0_eq  : verCfg0 =
  V.need (0 = 0)
    (V.need (0 = 0)
    (V.need (1 ≤ 1)
    (V.need (0 ≤ 0 ∧ 0 ≤ 0)
    (V.need (∀ (i e : Nat), i = 0 ∧ e < 0 → Int.ofNat 0 = Int.ofNat 0)
    (V.need (U8 0 fun (e : Nat) => Int.ofNat 0)
    (V.need (∃ (x : Cf), IsDec (fun (e : Nat) => Int.ofNat 0) 0 x)
    (V.any Cf (IsDec (fun (e : Nat) => Int.ofNat 0) 0) fun (x : Cf) => V.need (IsDec (fun (x : Nat) => Int.ofNat 0) 0 (Cf.mk x.W x.L x.C x.T x.D x.H x.B x.A x.P x.nP x.rc x.nU x.cu (fun (e : Nat) => x.lenP e) (fun (e : Nat) => x.FC e) (fun (i e : Nat) => x.iO i e) (fun (i e : Nat) => x.iA i e) (fun (i e : Nat) => x.iB i e) (fun (e : Nat) => x.uP e) (fun (e : Nat) => x.uL e) fun (e : Nat) => x.uD e))
    (V.need (x.W = x.W)
    (V.need (x.L = x.L)
    (V.need (x.C = x.C)
    (V.need (x.T = x.T)
    (V.need (x.D = x.D)
    (V.need (x.H = x.H)
    (V.need (x.B = x.B)
    (V.need (x.A = x.A)
    (V.need (x.P = x.P)
    (V.need (x.nP = x.nP)
    (V.need (x.rc = x.rc)
    (V.need (x.nU = x.nU)
    (V.need (x.cu = x.cu)
    (V.need (x.rc = x.rc)
    (V.need (x.nP ≤ x.nP)
    (V.need (∀ (e : Nat), e < x.nP → e = e)
    (V.need (∀ (e : Nat), e < x.nP → x.lenP e = x.lenP e)
    (V.need (∀ (e : Nat), e < x.nP → x.FC e = x.FC e)
    (V.need (x.cu = x.cu)
    (V.need (x.nU ≤ x.nU)
    (V.need (∀ (e : Nat), e < x.nU → x.uP e = x.uP e)
    (V.need (∀ (e : Nat), e < x.nU → x.uL e = x.uL e)
    (V.need (∀ (e : Nat), e < x.nU → x.uD e = x.uD e)
    (V.need (∀ (i : Nat), gd x.nP x.FC i = gd x.nP (fun (e : Nat) => x.FC e) i ∨ gd x.nP (fun (e : Nat) => x.FC e) i = 0)
    (V.need (∀ (i : Nat), gd x.nP (fun (e : Nat) => x.lenP e) i ≤ gd x.nP (fun (e : Nat) => x.FC e) i ∧ gd x.nP (fun (e : Nat) => x.lenP e) i ≤ gd x.nP x.lenP i)
    (V.need (∀ (i e : Nat), e < gd x.nP (fun (e : Nat) => x.lenP e) i → x.iO i e = x.iO i e)
    (V.need (∀ (i e : Nat), e < gd x.nP (fun (e : Nat) => x.lenP e) i → x.iA i e = x.iA i e)
    (V.need (∀ (i e : Nat), e < gd x.nP (fun (e : Nat) => x.lenP e) i → x.iB i e = x.iB i e) V.ok))))))))))))))))))))))))))))))))))) := by kernel_rfl

theorem verCfg_eq (g : Nat → Int) (len cap : Nat) : verCfg g len cap =
  V.need (len = len)
    (V.need (cap = cap)
    (V.need (1 ≤ 1)
    (V.need (∀ (i : Nat), i < 1 → len ≤ len)
    (V.need (∀ (i e : Nat), i < 1 ∧ e < len → g e = g e)
    (V.need (U8 len fun (e : Nat) => g e)
    (V.need (∃ (x : Cf), IsDec (fun (e : Nat) => g e) len x)
    (V.any Cf (IsDec (fun (e : Nat) => g e) len) fun (x : Cf) => V.need (IsDec g len (Cf.mk x.W x.L x.C x.T x.D x.H x.B x.A x.P x.nP x.rc x.nU x.cu (fun (e : Nat) => x.lenP e) (fun (e : Nat) => x.FC e) (fun (i e : Nat) => x.iO i e) (fun (i e : Nat) => x.iA i e) (fun (i e : Nat) => x.iB i e) (fun (e : Nat) => x.uP e) (fun (e : Nat) => x.uL e) fun (e : Nat) => x.uD e))
    (V.need (x.W = x.W)
    (V.need (x.L = x.L)
    (V.need (x.C = x.C)
    (V.need (x.T = x.T)
    (V.need (x.D = x.D)
    (V.need (x.H = x.H)
    (V.need (x.B = x.B)
    (V.need (x.A = x.A)
    (V.need (x.P = x.P)
    (V.need (x.nP = x.nP)
    (V.need (x.rc = x.rc)
    (V.need (x.nU = x.nU)
    (V.need (x.cu = x.cu)
    (V.need (x.rc = x.rc)
    (V.need (x.nP ≤ x.nP)
    (V.need (∀ (e : Nat), e < x.nP → e = e)
    (V.need (∀ (e : Nat), e < x.nP → x.lenP e = x.lenP e)
    (V.need (∀ (e : Nat), e < x.nP → x.FC e = x.FC e)
    (V.need (x.cu = x.cu)
    (V.need (x.nU ≤ x.nU)
    (V.need (∀ (e : Nat), e < x.nU → x.uP e = x.uP e)
    (V.need (∀ (e : Nat), e < x.nU → x.uL e = x.uL e)
    (V.need (∀ (e : Nat), e < x.nU → x.uD e = x.uD e)
    (V.need (∀ (i : Nat), gd x.nP x.FC i = gd x.nP (fun (e : Nat) => x.FC e) i ∨ gd x.nP (fun (e : Nat) => x.FC e) i = 0)
    (V.need (∀ (i : Nat), gd x.nP (fun (e : Nat) => x.lenP e) i ≤ gd x.nP (fun (e : Nat) => x.FC e) i ∧ gd x.nP (fun (e : Nat) => x.lenP e) i ≤ gd x.nP x.lenP i)
    (V.need (∀ (i e : Nat), e < gd x.nP (fun (e : Nat) => x.lenP e) i → x.iO i e = x.iO i e)
    (V.need (∀ (i e : Nat), e < gd x.nP (fun (e : Nat) => x.lenP e) i → x.iA i e = x.iA i e)
    (V.need (∀ (i e : Nat), e < gd x.nP (fun (e : Nat) => x.lenP e) i → x.iB i e = x.iB i e) V.ok))))))))))))))))))))))))))))))))))) := by kernel_rfl


end Go.Proofs.Ytimklokgjmdobaa.Vc

/- Config of the statements: the contract. -/
set_option maxRecDepth 100000
namespace Go.Proofs.Ytimklokgjmdobaa.Vc
open Go Go.RowKit Sx Cn Dc Ck
theorem is_dec {g : Nat → Int} {len : Nat} : IsDec g len (decOf g len (fun e => lenP g len e) (nP g len) (nU g len)) := ⟨_, _, _, ⟨fun _ _ => Nat.le_refl _, Nat.le_refl _, Nat.le_refl _⟩, rfl⟩
theorem vhCfg0 (h : U8 0 fun _ => 0) : VHolds verCfg0 := by
  constructor
  rw [verCfg0_eq]
  simp only [V.holds, cf_eta, Int.ofNat_eq_natCast, decide_eq_true_eq, decide_eq_false_iff_not, true_and, and_true, eq_self, forall_const, true_implies, implies_true, Nat.le_refl, Nat.lt_irrefl, and_self]
  repeat' first
    | exact True.intro
    | exact h
    | with_reducible apply And.intro
    | (intro (d : Cf) (hd : IsDec _ _ d); have hd' := hd; obtain ⟨FC, rc, cu, hb, rfl⟩ := hd')
    | intro _
  all_goals first
    | exact h
    | assumption
    | exact ⟨_, is_dec⟩
    | exact gd_le (fun j hj => hb.1 j hj) _
    | exact Nat.le_refl _
    | exact hb.2.1
    | exact hb.2.2
    | exact .inl rfl
    | exact .inl trivial
    | rfl
theorem vhCfg {g : Nat → Int} {len cap : Nat} (h : U8 len g) : VHolds (verCfg g len cap) := by
  constructor
  rw [verCfg_eq]
  simp only [V.holds, cf_eta, Int.ofNat_eq_natCast, decide_eq_true_eq, decide_eq_false_iff_not, true_and, and_true, eq_self, forall_const, true_implies, implies_true, Nat.le_refl, Nat.lt_irrefl, and_self]
  repeat' first
    | exact True.intro
    | exact h
    | with_reducible apply And.intro
    | (intro (d : Cf) (hd : IsDec _ _ d); have hd' := hd; obtain ⟨FC, rc, cu, hb, rfl⟩ := hd')
    | intro _
  all_goals first
    | exact h
    | assumption
    | exact ⟨_, is_dec⟩
    | exact gd_le (fun j hj => hb.1 j hj) _
    | exact Nat.le_refl _
    | exact hb.2.1
    | exact hb.2.2
    | exact .inl rfl
    | exact .inl trivial
    | rfl
noncomputable section
def conCfg : List SV → Hp → Out (SV × Hp) := fun args H => match args with
  | [.c .nils] => useP [] 0 [.c .nils] [] (outCfgK 0 (fun _ => 0) 0) args H
  | [.c (.slc kb _ _ _ len cap)] => fN kb fun kb => match find kb H.h with
    | some (.row _ _ _ [.ck l]) => (match bytesL l with
      | some g => useP [kb] 1 [.c (slK 0 1 len.v cap.v)] [(0, ints .u8 len.v g)] (outCfgK 1 g len.v) args H
      | none => .bad 460)
    | _ => (match rowFn H.h kb 0 with
      | some g => useP [kb] 1 [.c (slK 0 1 len.v cap.v)] [(0, ints .u8 len.v g)] (outCfg 1 g len.v) args H
      | none => .bad 461)
  | _ => .bad 462
theorem conCfg_ok : ContractOK P 4 conCfg := contract_of_useP fun args H => by
  unfold conCfg
  simp only [fN_eq]
  repeat' split
  all_goals first
    | exact .inl ⟨_, rfl⟩
    | exact .inr ⟨_, _, _, _, _, rfl, (local_of_ver conDe_ok vhCfg0).same (cfg_same 0 _ _)⟩
    | exact .inr ⟨_, _, _, _, _, rfl, (local_of_ver conDe_ok vhCfg).same (cfg_same 1 _ _)⟩
    | exact .inr ⟨_, _, _, _, _, rfl, local_of_ver conDe_ok vhCfg⟩
end
end Go.Proofs.Ytimklokgjmdobaa.Vc

/- LockFree: awake and the law: what is asked. -/
set_option maxRecDepth 100000
namespace Go.Proofs.Ytimklokgjmdobaa.Vc
open Go Go.RowKit Sx Cn Dc Ck
noncomputable section
def psYes : PS := .one 0 (fun _ _ => []) (.c (.kb true)) []
def conYes : List SV → Hp → Out (SV × Hp) := fun args H => match args with
  | [] => useP [] 0 [] [] (.need True psYes.out) args H
  | _ => .bad 422
theorem conYes_ok {f : FuncId} (h : LocalOK P f [] [] 0 (.need True psYes.out)) : ContractOK P f conYes := contract_of_useP fun args H => by
  unfold conYes
  split
  · exact .inr ⟨_, _, _, _, _, rfl, h⟩
  · exact .inl ⟨_, rfl⟩
end
end Go.Proofs.Ytimklokgjmdobaa.Vc

/- Steps by which trees are shown. -/
namespace Go.Proofs.Ytimklokgjmdobaa.Vc
open Go Go.RowKit Sx Cn Dc Ck
end Go.Proofs.Ytimklokgjmdobaa.Vc
