/- The accesses of a memory: what is asked. -/
import Derived.Test.YtomaagmleafjeaaML
import Derived.Test.YtomaagmleafjeaaMW
import Derived.Test.YtomaagmleafjeaaMNw
import Derived.Test.YtomaagmleafjeaaMNwLen
import Derived.Test.YtomaagmleafjeaaMExec
set_option linter.unusedVariables false
set_option linter.unusedSimpArgs false
set_option maxRecDepth 100000
namespace Go.Proofs.Ytomaagmleafjeaa.Vc
open Go Go.RowKit Sx Cn Dc Ck
noncomputable section
abbrev uw (n : Int) : SC := .iv .u64 n
abbrev i6 (n : Int) : SC := .iv .i64 n
def mO (n cap : Nat) (lk lc lo ln ct : SC) : Blk := .own 141 6 ([.slc 1 (.k 0) (.k 0) 1 (.s n) (.s cap), lk, lc, lo, ln, ct].map some)
def ptM : SV := .c (.ptr 0 (.k 0) (.k 0) 0 6)
section
variable (g : Nat → Int) (n cap : Nat) (a v y lk lc lo ln ct : Int)
end
end
end Go.Proofs.Ytomaagmleafjeaa.Vc

/- Config of the statements: the conditions, printed by program. -/
set_option maxRecDepth 100000
namespace Go.Proofs.Ytomaagmleafjeaa.Vc
open Go Go.RowKit Sx Cn Dc Ck

end Go.Proofs.Ytomaagmleafjeaa.Vc

/- The accesses of a memory: the contracts with numbers that are not known. -/
set_option maxRecDepth 100000
namespace Go.Proofs.Ytomaagmleafjeaa.Vc
open Go Go.RowKit Sx Cn Dc Ck
end Go.Proofs.Ytomaagmleafjeaa.Vc

/- The accesses of a memory whose cells are listed one by one: the contracts. -/
set_option maxRecDepth 100000
namespace Go.Proofs.Ytomaagmleafjeaa.Vc
open Go Go.RowKit Sx Cn Dc Ck
theorem pre_local {f : FuncId} {args : List SV} {h0 h1 : HL} {n : Nat} {post : Out (SV × Hp)} (h : LocalOK P f args h1 n post) (hle : ∀ k b, find k h1 = some b → ∃ c, find k h0 = some c ∧ leBlk c b) : LocalOK P f args h0 n post := by
  intro φ ρ w vs K hi hv hh
  have hinv : HInv φ ρ ⟨h1, n, fun _ => True⟩ w := by
    refine ⟨hi.fr, hi.up, ?_, ?_, ?_, ?_, ?_⟩
    · intro k b hf; obtain ⟨c, hc, _⟩ := hle k b hf; exact hi.lt k c hc
    · intro k b hf; obtain ⟨c, hc, hl⟩ := hle k b hf; exact Blk.sat_le hl (hi.sat k c hc)
    · intro k b hf i hli y o hy; obtain ⟨c, hc, hl⟩ := hle k b hf; exact hi.bd k c hc i (leBlk_live hl hli) y o hy
    · intro k b hf hr i hli y o hy; obtain ⟨c, hc, hl⟩ := hle k b hf; exact hi.may k c hc (leBlk_row hl hr) i (leBlk_live hl hli) y o hy
    · intro k b hf hr k' b' hf' hne j i hj hi' y o y' o' hy hy'
      obtain ⟨c, hc, hl⟩ := hle k b hf
      obtain ⟨c', hc', hl'⟩ := hle k' b' hf'
      exact hi.sep k c hc (leBlk_row hl hr) k' c' hc' hne j i (leBlk_live hl hj) (leBlk_live hl' hi') y o y' o' hy hy'
  refine (h φ ρ w vs K hinv hv hh).mono ?_
  rintro e w' ⟨v, ρ', sv, H', a1, a2, a3, a4, a5, a6⟩
  exact ⟨v, ρ', sv, H', a1, a2, a3, ⟨a4.nxt, a4.D⟩, a5, a6⟩
noncomputable section
def mK (len cap : NV) (lk lc lo ln ct : SC) : Blk := .own 141 6 ([.slc 1 (.k 0) (.k 0) 1 len cap, lk, lc, lo, ln, ct].map some)
def hK (l : List SC) (len cap : NV) (lk lc lo ln ct : SC) : HL := [(0, mK len cap lk lc lo ln ct), (1, .row 58 cap.v len.v [.ck l])]
def atK (l : List SC) (j : Nat) : SC := match l[j]? with | some c => c | none => .nilp
def hK1 (l : List SC) (len cap : NV) (kd a : Int) (new : SC) (kn : Bool) (ct : Int) : HL := [(0, mK len cap (.ki .i64 kd) (.ki .i64 a) (atK l a.toNat) new (knI kn .i64 (IntKind.i64.wrap (ct + 1)))), (1, .row 58 cap.v len.v [.ck (l.set a.toNat new)])]
end
end Go.Proofs.Ytomaagmleafjeaa.Vc

/- The accesses of a memory whose cells are listed one by one: the contracts' table. -/
set_option maxRecDepth 100000
namespace Go.Proofs.Ytomaagmleafjeaa.Vc
open Go Go.RowKit Sx Cn Dc Ck
theorem contract_or {f : FuncId} {u m : Nat} {c : List SV → Hp → Out (SV × Hp)} (hc : ∀ args H, (∃ n, c args H = .bad n) ∨ (∃ σ n args0 h0 post, c args H = useP σ n args0 h0 post args H ∧ LocalOK P f args0 h0 n post) ∨ c args H = execF P con0 noAnn u m f args H ∨
    ∃ b σ n args0 h0 post σ' n' args0' h0' post', c args H = .br b (useP σ n args0 h0 post args H) (useP σ' n' args0' h0' post' args H) ∧ LocalOK P f args0 h0 n post ∧ LocalOK P f args0' h0' n' post') : ContractOK P f c := by
  intro φ ρ H w args vs K h hv hh
  rcases hc args H with ⟨n, e⟩ | ⟨σ, n, args0, h0, post, e, hl⟩ | e | ⟨b, σ, n, args0, h0, post, σ', n', args0', h0', post', e, hl, hl'⟩
  · rw [e] at hh; exact hh.elim
  · rw [e] at hh
    exact use_ok hl h hv (useP_T hh)
  · rw [e] at hh
    exact execF_ok0 (fun _ _ h => by cases h) m φ ρ H w f args vs K h hv hh
  · rw [e] at hh
    cases b with
    | true => exact use_ok hl h hv (useP_T (hh.1 rfl))
    | false => exact use_ok hl' h hv (useP_T (hh.2 rfl))
/-- What is known of a memory: where its cells are, their number, the last access, how many there were. -/
structure MK where
  kc : Nat
  len : NV
  cap : NV
  xk : Int
  xc : Int
  xo : Int
  xn : Int
  xt : Int
  kn : Bool
  l : List SC
noncomputable section
def MK.h (x : MK) : HL := hK x.l x.len x.cap (i6 x.xk) (i6 x.xc) (uw x.xo) (uw x.xn) (i6 x.xt)
def MK.ok (x : MK) (a : Int) : Bool := match a with
  | .ofNat n => Nat.blt n x.l.length && allI .u64 x.l
  | _ => false
def lenK (x : MK) (k : Out (SV × Hp)) : Out (SV × Hp) := match x.len with
  | .k m => chk (Nat.beq x.l.length m) k 484
  | .s m => .need (x.l.length = m) k
def MK.post (x : MK) (p : Option Prop) (a : Int) (ret : SV) (kd : Int) (new : SC) : Out (SV × Hp) := lenK x (match p with
  | some p => .need p (.leaf (ret, ⟨hK1 x.l x.len x.cap kd a new x.kn x.xt, 2, fun _ => True⟩))
  | none => .leaf (ret, ⟨hK1 x.l x.len x.cap kd a new x.kn x.xt, 2, fun _ => True⟩))
def fLd : FuncId := 190
def fSt : FuncId := 65
def fCs : FuncId := 198
def fOr : FuncId := 242
def fAnd : FuncId := 247
def fAdd : FuncId := 204
end
end Go.Proofs.Ytomaagmleafjeaa.Vc

/- bits.Len64: the contract, of known and unknown numbers. -/
set_option maxRecDepth 100000
namespace Go.Proofs.Ytomaagmleafjeaa.Vc
open Go Go.RowKit Sx Cn
theorem oneArg {l : List Int} (h : l.length = 1) : ∃ x, l = [x] := match l, h with | [x], _ => ⟨x, rfl⟩
def postLenK : List Int → Out SV | [x] => .need (0 ≤ x ∧ x ≤ 18446744073709551615) (.leaf (.c (.ki .i64 (Lib.bitLen x.toNat)))) | _ => .bad 400
def postLenS : List Int → Out SV | [x] => .need (0 ≤ x ∧ x ≤ 18446744073709551615) (.leaf (.c (.iv .i64 (Lib.bitLen x.toNat)))) | _ => .bad 400
theorem pureLenK : PureC P 139 [.u64] postLenK := by
  intro l hl w K hK
  obtain ⟨x, rfl⟩ := oneArg hl
  obtain ⟨⟨h0, h1⟩, hK⟩ := hK
  refine (bits_Len64 x w h0 h1).mono ?_
  rintro e w' ⟨rfl, rfl⟩
  exact ⟨_, _, rfl, hK, fun ρ => rfl, rfl, rfl, rfl, Nat.le_refl _, fun _ _ _ => rfl⟩
theorem pureLenS : PureC P 139 [.u64] postLenS := by
  intro l hl w K hK
  obtain ⟨x, rfl⟩ := oneArg hl
  obtain ⟨⟨h0, h1⟩, hK⟩ := hK
  refine (bits_Len64 x w h0 h1).mono ?_
  rintro e w' ⟨rfl, rfl⟩
  exact ⟨_, _, rfl, hK, fun ρ => rfl, rfl, rfl, rfl, Nat.le_refl _, fun _ _ _ => rfl⟩
noncomputable def conLen : List SV → Hp → Out (SV × Hp) := fun args H => match args with
  | [.c (.ki _ _)] => conP [.u64] postLenK args H
  | _ => conP [.u64] postLenS args H
theorem conLen_ok : ContractOK P 139 conLen := by
  intro φ ρ H w args vs K h hv hh
  unfold conLen at hh
  split at hh
  · exact conP_ok pureLenK φ ρ H w _ vs K h hv hh
  · exact conP_ok pureLenS φ ρ H w _ vs K h hv hh
end Go.Proofs.Ytomaagmleafjeaa.Vc
