/- The accesses of a memory: what is asked. -/
import Derived.Test.YtimklokgjmdobaaML
import Derived.Test.YtimklokgjmdobaaMW
import Derived.Test.YtimklokgjmdobaaMNw
import Derived.Test.YtimklokgjmdobaaMNwLen
import Derived.Test.YtimklokgjmdobaaMExec
set_option linter.unusedVariables false
set_option linter.unusedSimpArgs false
set_option maxRecDepth 100000
namespace Go.Proofs.Ytimklokgjmdobaa.Vc
open Go Go.RowKit Sx Cn Dc Ck
noncomputable section
abbrev uwn (n : Int) : SC := .iv .u64 n
abbrev i6n (n : Int) : SC := .iv .i64 n
section
variable (g : Nat → Int) (n cap : Nat) (a v y lk lc lo ln ct : Int)
end
end
end Go.Proofs.Ytimklokgjmdobaa.Vc

/- Config of the statements: the conditions, printed by program. -/
set_option maxRecDepth 100000
namespace Go.Proofs.Ytimklokgjmdobaa.Vc
open Go Go.RowKit Sx Cn Dc Ck

end Go.Proofs.Ytimklokgjmdobaa.Vc

/- The accesses of a memory: the contracts with numbers that are not known. -/
set_option maxRecDepth 100000
namespace Go.Proofs.Ytimklokgjmdobaa.Vc
open Go Go.RowKit Sx Cn Dc Ck
end Go.Proofs.Ytimklokgjmdobaa.Vc

/- The accesses of a memory whose cells are listed one by one: the contracts. -/
set_option maxRecDepth 100000
namespace Go.Proofs.Ytimklokgjmdobaa.Vc
open Go Go.RowKit Sx Cn Dc Ck
noncomputable section
def mKn (len cap : NV) (lk lc lo ln ct : SC) : Blk := .own 72 6 ([.slc 1 (.k 0) (.k 0) 1 len cap, lk, lc, lo, ln, ct].map some)
def hK (l : List SC) (len cap : NV) (lk lc lo ln ct : SC) : HL := [(0, mKn len cap lk lc lo ln ct), (1, .row 43 cap.v len.v [.ck l])]
def atK (l : List SC) (j : Nat) : SC := match l[j]? with | some c => c | none => .nilp
def hK1 (l : List SC) (len cap : NV) (kd a : Int) (new : SC) (kn : Bool) (ct : Int) : HL := [(0, mKn len cap (.ki .i64 kd) (.ki .i64 a) (atK l a.toNat) new (knI kn .i64 (IntKind.i64.wrap (ct + 1)))), (1, .row 43 cap.v len.v [.ck (l.set a.toNat new)])]
end
end Go.Proofs.Ytimklokgjmdobaa.Vc

/- The accesses of a memory whose cells are listed one by one: the contracts' table. -/
set_option maxRecDepth 100000
namespace Go.Proofs.Ytimklokgjmdobaa.Vc
open Go Go.RowKit Sx Cn Dc Ck
theorem contract_or {f : FuncId} {u m : Nat} {c : List SV → Hp → Out (SV × Hp)} (hc : ∀ args H, (∃ n, c args H = .bad n) ∨ (∃ σ n args0 h0 post, c args H = useP σ n args0 h0 post args H ∧ LocalOK P f args0 h0 n post) ∨ c args H = execF P con0 noAnn u m f args H ∨
    ∃ b σ n args0 h0 post σ' n' args0' h0' post', c args H = .br b (useP σ n args0 h0 post args H) (useP σ' n' args0' h0' post' args H) ∧ LocalOK P f args0 h0 n post ∧ LocalOK P f args0' h0' n' post') : ContractOK P f c := by
  intro φ ρ H w args vs K h hv hh
  rcases hc args H with ⟨n, e⟩ | ⟨σ, n, args0, h0, post, e, hl⟩ | e | ⟨b, σ, n, args0, h0, post, σ', n', args0', h0', post', e, hl, hl'⟩
  · rw [e] at hh; exact hh.elim
  · rw [e] at hh
    exact use_ok hl h hv (useP_T hh)
  · rw [e] at hh
    exact execF_ok0 (fun _ _ h => by cases h) m φ ρ H w f args vs K h hv hh
  · rw [e] at hh
    cases b with
    | true => exact use_ok hl h hv (useP_T (hh.1 rfl))
    | false => exact use_ok hl' h hv (useP_T (hh.2 rfl))
structure MK where
  kc : Nat
  len : NV
  cap : NV
  xk : Int
  xc : Int
  xo : Int
  xn : Int
  xt : Int
  kn : Bool
  l : List SC
noncomputable section
def memAt (H : Hp) (km : Nat) : Option MK := match find km H.h with
  | some (.own _ _ [some (.slc kc _ _ _ len cap), some lk, some lc, some lo, some ln, some ct]) => match find kc H.h with
    | some (.row _ _ _ [.ck l]) => match numC lk, numC lc, numC lo, numC ln, numC ct with
      | some xk, some xc, some xo, some xn, some xt => some ⟨kc, len, cap, xk, xc, xo, xn, xt, kiB ct, l⟩
      | _, _, _, _, _ => none
    | _ => none
  | _ => none
def MK.h (x : MK) : HL := hK x.l x.len x.cap (i6n x.xk) (i6n x.xc) (uwn x.xo) (uwn x.xn) (i6n x.xt)
def MK.ok (x : MK) (a : Int) : Bool := match a with
  | .ofNat n => Nat.blt n x.l.length && allI .u64 x.l
  | _ => false
def lenK (x : MK) (k : Out (SV × Hp)) : Out (SV × Hp) := match x.len with
  | .k m => chk (Nat.beq x.l.length m) k 484
  | .s m => .need (x.l.length = m) k
def MK.post (x : MK) (p : Option Prop) (a : Int) (ret : SV) (kd : Int) (new : SC) : Out (SV × Hp) := lenK x (match p with
  | some p => .need p (.leaf (ret, ⟨hK1 x.l x.len x.cap kd a new x.kn x.xt, 2, fun _ => True⟩))
  | none => .leaf (ret, ⟨hK1 x.l x.len x.cap kd a new x.kn x.xt, 2, fun _ => True⟩))
def memP (ws : Nat) (f : FuncId) (k : MK → List Nat → Int → List SC → List SV → Hp → Out (SV × Hp)) : List SV → Hp → Out (SV × Hp) := fun args H => match args with
  | .c (.ptr km _ _ _ _) :: .c (.ki .i64 a) :: rest => fN km fun km => match memAt H km with
    | some x => match x.ok a with
      | true => k x [km, x.kc] a (rest.filterMap fun | .c c => some c | _ => none) args H
      | false => .bad 481
    | none => execF P con0 noAnn 3 6 f args H
  | _ => execF P con0 noAnn 3 6 f args H
end
end Go.Proofs.Ytimklokgjmdobaa.Vc

/- bits.Len64: the contract, of known and unknown numbers. -/
set_option maxRecDepth 100000
namespace Go.Proofs.Ytimklokgjmdobaa.Vc
open Go Go.RowKit Sx Cn
theorem oneArg {l : List Int} (h : l.length = 1) : ∃ x, l = [x] := match l, h with | [x], _ => ⟨x, rfl⟩
def postLenK : List Int → Out SV | [x] => .need (0 ≤ x ∧ x ≤ 18446744073709551615) (.leaf (.c (.ki .i64 (Lib.bitLen x.toNat)))) | _ => .bad 400
def postLenS : List Int → Out SV | [x] => .need (0 ≤ x ∧ x ≤ 18446744073709551615) (.leaf (.c (.iv .i64 (Lib.bitLen x.toNat)))) | _ => .bad 400
theorem pureLenK : PureC P 32 [.u64] postLenK := by
  intro l hl w K hK
  obtain ⟨x, rfl⟩ := oneArg hl
  obtain ⟨⟨h0, h1⟩, hK⟩ := hK
  refine (bits_Len64 x w h0 h1).mono ?_
  rintro e w' ⟨rfl, rfl⟩
  exact ⟨_, _, rfl, hK, fun ρ => rfl, rfl, rfl, rfl, Nat.le_refl _, fun _ _ _ => rfl⟩
theorem pureLenS : PureC P 32 [.u64] postLenS := by
  intro l hl w K hK
  obtain ⟨x, rfl⟩ := oneArg hl
  obtain ⟨⟨h0, h1⟩, hK⟩ := hK
  refine (bits_Len64 x w h0 h1).mono ?_
  rintro e w' ⟨rfl, rfl⟩
  exact ⟨_, _, rfl, hK, fun ρ => rfl, rfl, rfl, rfl, Nat.le_refl _, fun _ _ _ => rfl⟩
noncomputable def conLen : List SV → Hp → Out (SV × Hp) := fun args H => match args with
  | [.c (.ki _ _)] => conP [.u64] postLenK args H
  | _ => conP [.u64] postLenS args H
theorem conLen_ok : ContractOK P 32 conLen := by
  intro φ ρ H w args vs K h hv hh
  unfold conLen at hh
  split at hh
  · exact conP_ok pureLenK φ ρ H w _ vs K h hv hh
  · exact conP_ok pureLenS φ ρ H w _ vs K h hv hh
end Go.Proofs.Ytimklokgjmdobaa.Vc
