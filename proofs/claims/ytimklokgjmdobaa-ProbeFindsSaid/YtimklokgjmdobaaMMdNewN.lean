/- machine.New once more: what is not known of the numbers has a name. -/
import Derived.Test.YtimklokgjmdobaaMMd
set_option linter.unusedVariables false
set_option linter.unusedSimpArgs false
set_option maxRecDepth 100000
namespace Go.Proofs.Ytimklokgjmdobaa.Md
open Go Go.RowKit Sx Cn Dc Ck Vc
noncomputable section
def layN' (m : Mk) (c : Cf) (tb : Int) : List SC := [knI m.w .i64 c.W, knI m.l .i64 c.L, knI m.c .i64 c.C, knI m.t .i64 c.T, knI m.d .i64 c.D, knI m.h .i64 c.H, knI m.h .i64 (lS c), knI (m.h && m.c) .i64 (lE c), knI (m.h && (m.c && m.w)) .i64 (lB c), knI (m.h && (m.c && m.w)) .i64 (lQ c), knI (m.h && (m.c && (m.w && (m.l && m.d)))) .i64 tb]
def envN (k0 k1 km kc kr : Nat) (m : Mk) (c d : Cf) (tb : Int) (rn rc : Nat) : Blk := .own 40 26 ((cfK m k0 k1 c d ++ layN' m c tb ++ [.ptr km (.k 0) (.k 0) 0 6, .ptr kc (.k 0) (.k 0) 0 2, slN m.t false kr 7 rn rc, .nils]).map some)
def hNewN (m : Mk) (c d : Cf) (tb : Int) (n rn rc : Nat) : HL := [(3, envN 8 9 4 6 7 m c d tb rn rc), (4, memK 5 m.n n), (5, zeroK false n), (6, clkK), (7, freshK m.t rn rc)] ++ hOwn 8 d
def selO {α : Type} {β : Type} (b : Bool) (x y : α) (k : α → Out β) : Out β := match b with | true => k x | false => k y
def outNewN (m : Mk) (c : Cf) (n t : Nat) : Out (SV × Hp) := .need (errE c = 0) (.any (Cf × Nat) (fun x => IsCl c x.1 ∧ c.T.toNat ≤ x.2) fun x => .any (Nat × Int) (fun q => q = (ncN c, lT c)) fun q => selO (m.h && (m.c && (m.w && (m.l && m.d)))) (lT c) q.2 fun tb => selO m.n n q.1 fun nn => .leaf (.t [.c (.ptr 3 (.k 0) (.k 0) 0 26), .c (.ki .i64 0)], ⟨hNewN m c x.1 tb nn t x.2, 11, fun _ => True⟩))
theorem newN_same (m : Mk) (c : Cf) (K : SV × Hp → Prop) (h : (outNewN m c (ncN c) c.T.toNat).holds K) : (outNewC m c (ncN c) c.T.toNat).holds K := by
  obtain ⟨h0, hx, hK⟩ := h
  refine ⟨h0, hx, fun x hφ => ?_⟩
  have := (hK x hφ).2 (ncN c, lT c) rfl
  have e1 : ∀ {α : Type} (b : Bool) (x : α) (k : α → Out (SV × Hp)), selO b x x k = k x := fun b x k => by cases b <;> rfl
  simp only [e1] at this
  exact this
def conNewN : List SV → Hp → Out (SV × Hp) := fun args H => match args with
  | [.a [x0, x1, x2, x3, x4, x5, x6, x7, x8, .slc kr _ _ _ nP rc, .slc ku _ _ _ nU cu]] => match numC x0, numC x1, numC x2, numC x3, numC x4, numC x5, numC x6, numC x7, numC x8 with
    | some W, some L, some C, some T, some D, some h, some B, some A, some Q => fN kr fun kr => fN ku fun ku => cfBlk H.h kr ku fun kF ln cp o a b f g k =>
        knN' ((⟨kiB x0, kiB x1, kiB x2, kiB x3, kiB x4, kiB x5, kiB x6, kiB x7, kiB x8⟩ : Mk).n) (ncN ⟨W, L, C, T, D, h, B, A, Q, nP.v, rc.v, nU.v, cu.v, fun e => ln 0 e, fun e => cp 0 e, o, a, b, fun e => f 0 e, fun e => g 0 e, fun e => k 0 e⟩) fun n => knN' (kiB x3) (Int.toNat T) fun t => useP [kr, ku, kF] 3 [argC ⟨W, L, C, T, D, h, B, A, Q, nP.v, rc.v, nU.v, cu.v, fun e => ln 0 e, fun e => cp 0 e, o, a, b, fun e => f 0 e, fun e => g 0 e, fun e => k 0 e⟩] (hC ⟨W, L, C, T, D, h, B, A, Q, nP.v, rc.v, nU.v, cu.v, fun e => ln 0 e, fun e => cp 0 e, o, a, b, fun e => f 0 e, fun e => g 0 e, fun e => k 0 e⟩)
                (outNewN ⟨kiB x0, kiB x1, kiB x2, kiB x3, kiB x4, kiB x5, kiB x6, kiB x7, kiB x8⟩ ⟨W, L, C, T, D, h, B, A, Q, nP.v, rc.v, nU.v, cu.v, fun e => ln 0 e, fun e => cp 0 e, o, a, b, fun e => f 0 e, fun e => g 0 e, fun e => k 0 e⟩ n t) args H
    | _, _, _, _, _, _, _, _, _ => .bad 434
  | _ => .bad 435
theorem conNewN_ok : ContractOK P 5 conNewN := contract_of_useP fun args H => by
  unfold conNewN
  simp only [fN_eq, knN_eq]
  repeat' split
  all_goals first | exact .inl ⟨_, rfl⟩ | exact (cfBlk_ok _ _ _ _).elim .inl fun ⟨_, _, _, _, _, _, _, _, _, e⟩ => .inr ⟨_, _, _, _, _, e, ((local_of_ps conNM_ok (vhNewM _)).same (newC_same _ _)).mono (newN_same _ _)⟩
def conWN : Con := Con.add 4 conCfg (Con.add 5 conNewN con0)
theorem conWN_ok : ConOK P conWN := .add conCfg_ok (.add conNewN_ok ConOK.nil)
end
end Go.Proofs.Ytimklokgjmdobaa.Md
