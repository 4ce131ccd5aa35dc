/- Entries of a worker: the conditions, printed by program. -/
import Derived.Test.YtomaagmleafjeaaMMdEtD
import Derived.Test.YtomaagmleafjeaaMW
import Derived.Test.YtomaagmleafjeaaMMdBr
import Derived.Test.YtomaagmleafjeaaML
import Derived.Test.YtomaagmleafjeaaMMd
set_option linter.unusedVariables false
set_option linter.unusedSimpArgs false
set_option linter.unusedVariables false
set_option maxRecDepth 100000
namespace Go.Proofs.Ytomaagmleafjeaa.Md
open Go Go.RowKit Sx Cn Dc Ck Vc

set_option maxHeartbeats 8000000 in
theorem vEnt_eq (c : Cf) (g : Nat → Int) (l : Int) (n cap : Nat) : vEnt c g l n cap =
  nN [(1, .pf (c.W = c.W) rfl), (1, .pf (c.L = c.L) rfl), (1, .pf (c.C = c.C) rfl), (1, .pf (c.T = c.T) rfl), (1, .pf (c.D = c.D) rfl), (1, .pf (c.H = c.H) rfl), (1, .pf (c.B = c.B) rfl), (1, .pf (c.A = c.A) rfl), (1, .pf (c.P = c.P) rfl), (1, .pf (c.nP = c.nP) rfl), (1, .pf (c.rc = c.rc) rfl), (1, .pf (c.nU = c.nU) rfl), (1, .pf (c.cu = c.cu) rfl), (1, .le 1 1), (1, .pf (∀ (i : Nat), i < 1 → c.nP ≤ c.nP) (by intros; exact Nat.le_refl _)), (1, .pf (∀ (i e : Nat), i < 1 ∧ e < c.nP → e = e) (by intros; rfl)), (1, .pf (∀ (i e : Nat), i < 1 ∧ e < c.nP → c.lenP e = c.lenP e) (by intros; rfl)), (1, .pf (∀ (i e : Nat), i < 1 ∧ e < c.nP → c.FC e = c.FC e) (by intros; rfl)), (1, .le 1 1), (1, .pf (∀ (i : Nat), i < 1 → c.nU ≤ c.nU) (by intros; exact Nat.le_refl _)), (1, .pf (∀ (i e : Nat), i < 1 ∧ e < c.nU → c.uP e = c.uP e) (by intros; rfl)), (1, .pf (∀ (i e : Nat), i < 1 ∧ e < c.nU → c.uL e = c.uL e) (by intros; rfl)), (1, .pf (∀ (i e : Nat), i < 1 ∧ e < c.nU → c.uD e = c.uD e) (by intros; rfl)), (1, .pf (c.nP ≤ c.nP) (Nat.le_refl _)), (1, .pf (∀ (i : Nat), i < c.nP → c.lenP i ≤ c.lenP i) (by intros; exact Nat.le_refl _)), (1, .pf (∀ (i e : Nat), i < c.nP ∧ e < c.lenP i → c.iO i e = c.iO i e) (by intros; rfl)), (1, .pf (∀ (i e : Nat), i < c.nP ∧ e < c.lenP i → c.iA i e = c.iA i e) (by intros; rfl)), (1, .pf (∀ (i e : Nat), i < c.nP ∧ e < c.lenP i → c.iB i e = c.iB i e) (by intros; rfl))]
    (V.need True
    (V.br (errE (Cf.mk c.W c.L c.C c.T c.D c.H c.B c.A c.P c.nP c.rc c.nU c.cu (fun (e : Nat) => c.lenP e) (fun (e : Nat) => c.FC e) (fun (i e : Nat) => c.iO i e) (fun (i e : Nat) => c.iA i e) (fun (i e : Nat) => c.iB i e) (fun (e : Nat) => c.uP e) (fun (e : Nat) => c.uL e) fun (e : Nat) => c.uD e) == Int.ofNat 0)
    (nN [(19, .lt2 0 1 0 1)]
    (V.br (!(↑n : Int) == IntKind.i64.wrap (IntKind.i64.wrap (IntKind.i64.wrap (IntKind.i64.wrap (IntKind.i64.wrap (Int.ofNat 4 + c.H) + c.C) + IntKind.i64.wrap (Int.ofNat 2 * c.W)) + IntKind.i64.wrap (IntKind.i64.wrap (c.W * c.L) * IntKind.i64.wrap (Int.ofNat 2 + c.D))) + IntKind.i64.wrap (Int.ofNat 5 * c.T)))
    (V.need (decide (Int.ofNat 1 ≤ entN c g l ∧ entN c g l ≤ c.D) = false)
    (V.need True V.ok))
    (V.br (decide (Int.ofNat 0 ≥ c.W))
    (V.need (decide (Int.ofNat 1 ≤ entN c g l ∧ entN c g l ≤ c.D) = false)
    (V.need True V.ok))
    (V.br (decide (l < Int.ofNat 0))
    (V.need (decide (Int.ofNat 1 ≤ entN c g l ∧ entN c g l ≤ c.D) = false)
    (V.need True V.ok))
    (V.br (decide (l ≥ c.L))
    (V.need (decide (Int.ofNat 1 ≤ entN c g l ∧ entN c g l ≤ c.D) = false)
    (V.need True V.ok))
    (V.br (decide (Int.ofNat 0 ≥ c.W))
    (nN [(2, .lt2 0 1 0 1)]
    (V.need (Int.ofNat 0 ≤ Int.negSucc 0 ∧ Int.negSucc 0 < (↑n : Int))
    (V.need (0 < 1 ∧ 0 < n)
    (V.need (0 < 1 ∧ 0 < n)
    (nN [(2, .lt2 0 1 0 1)]
    (V.need (Int.ofNat 0 ≤ Int.negSucc 0 ∧ Int.negSucc 0 < (↑n : Int))
    (V.need (0 < 1 ∧ 0 < n)
    (V.need (0 < 1 ∧ 0 < n)
    (V.br (decide (IntKind.i64.wrap (IntKind.u64.wrap (g 0 - g 0)) < Int.ofNat 1))
    (V.need (decide (Int.ofNat 1 ≤ entN c g l ∧ entN c g l ≤ c.D) = false)
    (V.need True V.ok))
    (V.br (decide (IntKind.i64.wrap (IntKind.u64.wrap (g 0 - g 0)) > c.D))
    (V.need (decide (Int.ofNat 1 ≤ entN c g l ∧ entN c g l ≤ c.D) = false)
    (V.need True V.ok))
    (V.need ((↑0 : Int) ≤ entN c g l ∧ 0 ≤ 0)
    (nN [(2, .eq 0 0)]
    (V.need (Int.ofNat 0 = (↑0 : Int))
    (nN [(1, .eq 0 0), (1, .le 0 0), (1, .pf (∀ (e : Nat), e < 0 → entE c g l e = entE c g l e) (by intros; rfl))]
    (V.any (Nat × Nat) (fun (x : Nat × Nat) => (↑x.fst : Int) ≤ entN c g l ∧ x.fst ≤ x.snd) fun (x : Nat × Nat) => V.br (decide ((↑x.fst : Int) < IntKind.i64.wrap (IntKind.u64.wrap (g 0 - g 0))))
    (nN [(4, .lt2 0 1 0 1)]
    (V.need (Int.ofNat 0 ≤ Int.negSucc 0 ∧ Int.negSucc 0 < (↑n : Int))
    (V.need (0 < 1 ∧ 0 < n)
    (V.need (0 < 1 ∧ 0 < n)
    (nN [(1, .lt 0 1)]
    (V.need (x.fst ≤ x.fst ∧ x.snd = x.snd)
    (V.need (x.fst + 1 ≤ 9223372036854775807 ∧ (x.fst + 1) * 8 ≤ 140737488355328)
    (V.any Nat (fun (x_1 : Nat) => x.fst + 1 ≤ x_1) fun (x_1 : Nat) => V.need ((↑(IntKind.i64.wrap ((↑x.fst : Int) + Int.ofNat 1)).toNat : Int) ≤ entN c g l ∧ (IntKind.i64.wrap ((↑x.fst : Int) + Int.ofNat 1)).toNat ≤ x_1)
    (V.need ((entN c g l).toNat - (IntKind.i64.wrap ((↑x.fst : Int) + Int.ofNat 1)).toNat < (entN c g l).toNat - x.fst)
    (V.need (x.fst + 1 = (IntKind.i64.wrap ((↑x.fst : Int) + Int.ofNat 1)).toNat)
    (nN [(1, .pf (x_1 = x_1) rfl)]
    (V.need (IntKind.i64.wrap ((↑x.fst : Int) + Int.ofNat 1) = (↑(IntKind.i64.wrap ((↑x.fst : Int) + Int.ofNat 1)).toNat : Int))
    (nN [(1, .pf (x_1 = x_1) rfl)]
    (V.need ((IntKind.i64.wrap ((↑x.fst : Int) + Int.ofNat 1)).toNat ≤ x.fst + 1)
    (V.need (∀ (e : Nat), e < (IntKind.i64.wrap ((↑x.fst : Int) + Int.ofNat 1)).toNat → (if 0 = 0 ∧ e = x.fst then IntKind.i64.wrap (g 0) else entE c g l e) = entE c g l e) V.ok)))))))))))))))
    (V.need (decide (Int.ofNat 1 ≤ entN c g l ∧ entN c g l ≤ c.D) = true)
    (V.need ((entN c g l).toNat ≤ x.snd)
    (V.need (x.fst = (entN c g l).toNat)
    (nN [(2, .pf (x.snd = x.snd) rfl)]
    (V.need ((entN c g l).toNat ≤ x.fst)
    (nN [(1, .pf (∀ (e : Nat), e < (entN c g l).toNat → entE c g l e = entE c g l e) (by intros; rfl))] V.ok)))))))))))))))))))))
    (V.br (decide (l < Int.ofNat 0))
    (nN [(2, .lt2 0 1 0 1)]
    (V.need (Int.ofNat 0 ≤ Int.negSucc 0 ∧ Int.negSucc 0 < (↑n : Int))
    (V.need (0 < 1 ∧ 0 < n)
    (V.need (0 < 1 ∧ 0 < n)
    (nN [(2, .lt2 0 1 0 1)]
    (V.need (Int.ofNat 0 ≤ Int.negSucc 0 ∧ Int.negSucc 0 < (↑n : Int))
    (V.need (0 < 1 ∧ 0 < n)
    (V.need (0 < 1 ∧ 0 < n)
    (V.br (decide (IntKind.i64.wrap (IntKind.u64.wrap (g 0 - g 0)) < Int.ofNat 1))
    (V.need (decide (Int.ofNat 1 ≤ entN c g l ∧ entN c g l ≤ c.D) = false)
    (V.need True V.ok))
    (V.br (decide (IntKind.i64.wrap (IntKind.u64.wrap (g 0 - g 0)) > c.D))
    (V.need (decide (Int.ofNat 1 ≤ entN c g l ∧ entN c g l ≤ c.D) = false)
    (V.need True V.ok))
    (V.need ((↑0 : Int) ≤ entN c g l ∧ 0 ≤ 0)
    (nN [(2, .eq 0 0)]
    (V.need (Int.ofNat 0 = (↑0 : Int))
    (nN [(1, .eq 0 0), (1, .le 0 0), (1, .pf (∀ (e : Nat), e < 0 → entE c g l e = entE c g l e) (by intros; rfl))]
    (V.any (Nat × Nat) (fun (x : Nat × Nat) => (↑x.fst : Int) ≤ entN c g l ∧ x.fst ≤ x.snd) fun (x : Nat × Nat) => V.br (decide ((↑x.fst : Int) < IntKind.i64.wrap (IntKind.u64.wrap (g 0 - g 0))))
    (nN [(4, .lt2 0 1 0 1)]
    (V.need (Int.ofNat 0 ≤ Int.negSucc 0 ∧ Int.negSucc 0 < (↑n : Int))
    (V.need (0 < 1 ∧ 0 < n)
    (V.need (0 < 1 ∧ 0 < n)
    (nN [(1, .lt 0 1)]
    (V.need (x.fst ≤ x.fst ∧ x.snd = x.snd)
    (V.need (x.fst + 1 ≤ 9223372036854775807 ∧ (x.fst + 1) * 8 ≤ 140737488355328)
    (V.any Nat (fun (x_1 : Nat) => x.fst + 1 ≤ x_1) fun (x_1 : Nat) => V.need ((↑(IntKind.i64.wrap ((↑x.fst : Int) + Int.ofNat 1)).toNat : Int) ≤ entN c g l ∧ (IntKind.i64.wrap ((↑x.fst : Int) + Int.ofNat 1)).toNat ≤ x_1)
    (V.need ((entN c g l).toNat - (IntKind.i64.wrap ((↑x.fst : Int) + Int.ofNat 1)).toNat < (entN c g l).toNat - x.fst)
    (V.need (x.fst + 1 = (IntKind.i64.wrap ((↑x.fst : Int) + Int.ofNat 1)).toNat)
    (nN [(1, .pf (x_1 = x_1) rfl)]
    (V.need (IntKind.i64.wrap ((↑x.fst : Int) + Int.ofNat 1) = (↑(IntKind.i64.wrap ((↑x.fst : Int) + Int.ofNat 1)).toNat : Int))
    (nN [(1, .pf (x_1 = x_1) rfl)]
    (V.need ((IntKind.i64.wrap ((↑x.fst : Int) + Int.ofNat 1)).toNat ≤ x.fst + 1)
    (V.need (∀ (e : Nat), e < (IntKind.i64.wrap ((↑x.fst : Int) + Int.ofNat 1)).toNat → (if 0 = 0 ∧ e = x.fst then IntKind.i64.wrap (g 0) else entE c g l e) = entE c g l e) V.ok)))))))))))))))
    (V.need (decide (Int.ofNat 1 ≤ entN c g l ∧ entN c g l ≤ c.D) = true)
    (V.need ((entN c g l).toNat ≤ x.snd)
    (V.need (x.fst = (entN c g l).toNat)
    (nN [(2, .pf (x.snd = x.snd) rfl)]
    (V.need ((entN c g l).toNat ≤ x.fst)
    (nN [(1, .pf (∀ (e : Nat), e < (entN c g l).toNat → entE c g l e = entE c g l e) (by intros; rfl))] V.ok)))))))))))))))))))))
    (V.br (decide (l ≥ c.L))
    (nN [(2, .lt2 0 1 0 1)]
    (V.need (Int.ofNat 0 ≤ Int.negSucc 0 ∧ Int.negSucc 0 < (↑n : Int))
    (V.need (0 < 1 ∧ 0 < n)
    (V.need (0 < 1 ∧ 0 < n)
    (nN [(2, .lt2 0 1 0 1)]
    (V.need (Int.ofNat 0 ≤ Int.negSucc 0 ∧ Int.negSucc 0 < (↑n : Int))
    (V.need (0 < 1 ∧ 0 < n)
    (V.need (0 < 1 ∧ 0 < n)
    (V.br (decide (IntKind.i64.wrap (IntKind.u64.wrap (g 0 - g 0)) < Int.ofNat 1))
    (V.need (decide (Int.ofNat 1 ≤ entN c g l ∧ entN c g l ≤ c.D) = false)
    (V.need True V.ok))
    (V.br (decide (IntKind.i64.wrap (IntKind.u64.wrap (g 0 - g 0)) > c.D))
    (V.need (decide (Int.ofNat 1 ≤ entN c g l ∧ entN c g l ≤ c.D) = false)
    (V.need True V.ok))
    (V.need ((↑0 : Int) ≤ entN c g l ∧ 0 ≤ 0)
    (nN [(2, .eq 0 0)]
    (V.need (Int.ofNat 0 = (↑0 : Int))
    (nN [(1, .eq 0 0), (1, .le 0 0), (1, .pf (∀ (e : Nat), e < 0 → entE c g l e = entE c g l e) (by intros; rfl))]
    (V.any (Nat × Nat) (fun (x : Nat × Nat) => (↑x.fst : Int) ≤ entN c g l ∧ x.fst ≤ x.snd) fun (x : Nat × Nat) => V.br (decide ((↑x.fst : Int) < IntKind.i64.wrap (IntKind.u64.wrap (g 0 - g 0))))
    (nN [(4, .lt2 0 1 0 1)]
    (V.need (Int.ofNat 0 ≤ Int.negSucc 0 ∧ Int.negSucc 0 < (↑n : Int))
    (V.need (0 < 1 ∧ 0 < n)
    (V.need (0 < 1 ∧ 0 < n)
    (nN [(1, .lt 0 1)]
    (V.need (x.fst ≤ x.fst ∧ x.snd = x.snd)
    (V.need (x.fst + 1 ≤ 9223372036854775807 ∧ (x.fst + 1) * 8 ≤ 140737488355328)
    (V.any Nat (fun (x_1 : Nat) => x.fst + 1 ≤ x_1) fun (x_1 : Nat) => V.need ((↑(IntKind.i64.wrap ((↑x.fst : Int) + Int.ofNat 1)).toNat : Int) ≤ entN c g l ∧ (IntKind.i64.wrap ((↑x.fst : Int) + Int.ofNat 1)).toNat ≤ x_1)
    (V.need ((entN c g l).toNat - (IntKind.i64.wrap ((↑x.fst : Int) + Int.ofNat 1)).toNat < (entN c g l).toNat - x.fst)
    (V.need (x.fst + 1 = (IntKind.i64.wrap ((↑x.fst : Int) + Int.ofNat 1)).toNat)
    (nN [(1, .pf (x_1 = x_1) rfl)]
    (V.need (IntKind.i64.wrap ((↑x.fst : Int) + Int.ofNat 1) = (↑(IntKind.i64.wrap ((↑x.fst : Int) + Int.ofNat 1)).toNat : Int))
    (nN [(1, .pf (x_1 = x_1) rfl)]
    (V.need ((IntKind.i64.wrap ((↑x.fst : Int) + Int.ofNat 1)).toNat ≤ x.fst + 1)
    (V.need (∀ (e : Nat), e < (IntKind.i64.wrap ((↑x.fst : Int) + Int.ofNat 1)).toNat → (if 0 = 0 ∧ e = x.fst then IntKind.i64.wrap (g 0) else entE c g l e) = entE c g l e) V.ok)))))))))))))))
    (V.need (decide (Int.ofNat 1 ≤ entN c g l ∧ entN c g l ≤ c.D) = true)
    (V.need ((entN c g l).toNat ≤ x.snd)
    (V.need (x.fst = (entN c g l).toNat)
    (nN [(2, .pf (x.snd = x.snd) rfl)]
    (V.need ((entN c g l).toNat ≤ x.fst)
    (nN [(1, .pf (∀ (e : Nat), e < (entN c g l).toNat → entE c g l e = entE c g l e) (by intros; rfl))] V.ok)))))))))))))))))))))
    (nN [(17, .lt2 0 1 0 1)]
    (V.need (Int.ofNat 0 ≤ IntKind.i64.wrap (IntKind.i64.wrap (IntKind.i64.wrap (IntKind.i64.wrap (Int.ofNat 4 + c.H) + c.C) + IntKind.i64.wrap (Int.ofNat 2 * c.W)) + IntKind.i64.wrap (IntKind.i64.wrap (IntKind.i64.wrap (Int.ofNat 0 * c.L) + l) * IntKind.i64.wrap (Int.ofNat 2 + c.D))) ∧ IntKind.i64.wrap (IntKind.i64.wrap (IntKind.i64.wrap (IntKind.i64.wrap (Int.ofNat 4 + c.H) + c.C) + IntKind.i64.wrap (Int.ofNat 2 * c.W)) + IntKind.i64.wrap (IntKind.i64.wrap (IntKind.i64.wrap (Int.ofNat 0 * c.L) + l) * IntKind.i64.wrap (Int.ofNat 2 + c.D))) < (↑n : Int))
    (V.need (0 < 1 ∧ 0 + (IntKind.i64.wrap (IntKind.i64.wrap (IntKind.i64.wrap (IntKind.i64.wrap (Int.ofNat 4 + c.H) + c.C) + IntKind.i64.wrap (Int.ofNat 2 * c.W)) + IntKind.i64.wrap (IntKind.i64.wrap (IntKind.i64.wrap (Int.ofNat 0 * c.L) + l) * IntKind.i64.wrap (Int.ofNat 2 + c.D)))).toNat < n)
    (V.need (0 < 1 ∧ 0 + (IntKind.i64.wrap (IntKind.i64.wrap (IntKind.i64.wrap (IntKind.i64.wrap (Int.ofNat 4 + c.H) + c.C) + IntKind.i64.wrap (Int.ofNat 2 * c.W)) + IntKind.i64.wrap (IntKind.i64.wrap (IntKind.i64.wrap (Int.ofNat 0 * c.L) + l) * IntKind.i64.wrap (Int.ofNat 2 + c.D)))).toNat < n)
    (nN [(2, .lt2 0 1 0 1)]
    (V.need (Int.ofNat 0 ≤ IntKind.i64.wrap (IntKind.i64.wrap (IntKind.i64.wrap (IntKind.i64.wrap (IntKind.i64.wrap (Int.ofNat 4 + c.H) + c.C) + IntKind.i64.wrap (Int.ofNat 2 * c.W)) + IntKind.i64.wrap (IntKind.i64.wrap (IntKind.i64.wrap (Int.ofNat 0 * c.L) + l) * IntKind.i64.wrap (Int.ofNat 2 + c.D))) + Int.ofNat 1) ∧ IntKind.i64.wrap (IntKind.i64.wrap (IntKind.i64.wrap (IntKind.i64.wrap (IntKind.i64.wrap (Int.ofNat 4 + c.H) + c.C) + IntKind.i64.wrap (Int.ofNat 2 * c.W)) + IntKind.i64.wrap (IntKind.i64.wrap (IntKind.i64.wrap (Int.ofNat 0 * c.L) + l) * IntKind.i64.wrap (Int.ofNat 2 + c.D))) + Int.ofNat 1) < (↑n : Int))
    (V.need (0 < 1 ∧ 0 + (IntKind.i64.wrap (IntKind.i64.wrap (IntKind.i64.wrap (IntKind.i64.wrap (IntKind.i64.wrap (Int.ofNat 4 + c.H) + c.C) + IntKind.i64.wrap (Int.ofNat 2 * c.W)) + IntKind.i64.wrap (IntKind.i64.wrap (IntKind.i64.wrap (Int.ofNat 0 * c.L) + l) * IntKind.i64.wrap (Int.ofNat 2 + c.D))) + Int.ofNat 1)).toNat < n)
    (V.need (0 < 1 ∧ 0 + (IntKind.i64.wrap (IntKind.i64.wrap (IntKind.i64.wrap (IntKind.i64.wrap (IntKind.i64.wrap (Int.ofNat 4 + c.H) + c.C) + IntKind.i64.wrap (Int.ofNat 2 * c.W)) + IntKind.i64.wrap (IntKind.i64.wrap (IntKind.i64.wrap (Int.ofNat 0 * c.L) + l) * IntKind.i64.wrap (Int.ofNat 2 + c.D))) + Int.ofNat 1)).toNat < n)
    (V.br (decide (IntKind.i64.wrap (IntKind.u64.wrap (g (0 + (IntKind.i64.wrap (IntKind.i64.wrap (IntKind.i64.wrap (IntKind.i64.wrap (IntKind.i64.wrap (Int.ofNat 4 + c.H) + c.C) + IntKind.i64.wrap (Int.ofNat 2 * c.W)) + IntKind.i64.wrap (IntKind.i64.wrap (IntKind.i64.wrap (Int.ofNat 0 * c.L) + l) * IntKind.i64.wrap (Int.ofNat 2 + c.D))) + Int.ofNat 1)).toNat) - g (0 + (IntKind.i64.wrap (IntKind.i64.wrap (IntKind.i64.wrap (IntKind.i64.wrap (Int.ofNat 4 + c.H) + c.C) + IntKind.i64.wrap (Int.ofNat 2 * c.W)) + IntKind.i64.wrap (IntKind.i64.wrap (IntKind.i64.wrap (Int.ofNat 0 * c.L) + l) * IntKind.i64.wrap (Int.ofNat 2 + c.D)))).toNat))) < Int.ofNat 1))
    (V.need (decide (Int.ofNat 1 ≤ entN c g l ∧ entN c g l ≤ c.D) = false)
    (V.need True V.ok))
    (V.br (decide (IntKind.i64.wrap (IntKind.u64.wrap (g (0 + (IntKind.i64.wrap (IntKind.i64.wrap (IntKind.i64.wrap (IntKind.i64.wrap (IntKind.i64.wrap (Int.ofNat 4 + c.H) + c.C) + IntKind.i64.wrap (Int.ofNat 2 * c.W)) + IntKind.i64.wrap (IntKind.i64.wrap (IntKind.i64.wrap (Int.ofNat 0 * c.L) + l) * IntKind.i64.wrap (Int.ofNat 2 + c.D))) + Int.ofNat 1)).toNat) - g (0 + (IntKind.i64.wrap (IntKind.i64.wrap (IntKind.i64.wrap (IntKind.i64.wrap (Int.ofNat 4 + c.H) + c.C) + IntKind.i64.wrap (Int.ofNat 2 * c.W)) + IntKind.i64.wrap (IntKind.i64.wrap (IntKind.i64.wrap (Int.ofNat 0 * c.L) + l) * IntKind.i64.wrap (Int.ofNat 2 + c.D)))).toNat))) > c.D))
    (V.need (decide (Int.ofNat 1 ≤ entN c g l ∧ entN c g l ≤ c.D) = false)
    (V.need True V.ok))
    (V.need ((↑0 : Int) ≤ entN c g l ∧ 0 ≤ 0)
    (nN [(2, .eq 0 0)]
    (V.need (Int.ofNat 0 = (↑0 : Int))
    (nN [(1, .eq 0 0), (1, .le 0 0), (1, .pf (∀ (e : Nat), e < 0 → entE c g l e = entE c g l e) (by intros; rfl))]
    (V.any (Nat × Nat) (fun (x : Nat × Nat) => (↑x.fst : Int) ≤ entN c g l ∧ x.fst ≤ x.snd) fun (x : Nat × Nat) => V.br (decide ((↑x.fst : Int) < IntKind.i64.wrap (IntKind.u64.wrap (g (0 + (IntKind.i64.wrap (IntKind.i64.wrap (IntKind.i64.wrap (IntKind.i64.wrap (IntKind.i64.wrap (Int.ofNat 4 + c.H) + c.C) + IntKind.i64.wrap (Int.ofNat 2 * c.W)) + IntKind.i64.wrap (IntKind.i64.wrap (IntKind.i64.wrap (Int.ofNat 0 * c.L) + l) * IntKind.i64.wrap (Int.ofNat 2 + c.D))) + Int.ofNat 1)).toNat) - g (0 + (IntKind.i64.wrap (IntKind.i64.wrap (IntKind.i64.wrap (IntKind.i64.wrap (Int.ofNat 4 + c.H) + c.C) + IntKind.i64.wrap (Int.ofNat 2 * c.W)) + IntKind.i64.wrap (IntKind.i64.wrap (IntKind.i64.wrap (Int.ofNat 0 * c.L) + l) * IntKind.i64.wrap (Int.ofNat 2 + c.D)))).toNat)))))
    (nN [(4, .lt2 0 1 0 1)]
    (V.br (decide (c.D < Int.ofNat 1))
    (V.need (Int.ofNat 0 ≤ Int.negSucc 0 ∧ Int.negSucc 0 < (↑n : Int))
    (V.need (0 < 1 ∧ 0 < n)
    (V.need (0 < 1 ∧ 0 < n)
    (nN [(1, .lt 0 1)]
    (V.need (x.fst ≤ x.fst ∧ x.snd = x.snd)
    (V.need (x.fst + 1 ≤ 9223372036854775807 ∧ (x.fst + 1) * 8 ≤ 140737488355328)
    (V.any Nat (fun (x_1 : Nat) => x.fst + 1 ≤ x_1) fun (x_1 : Nat) => V.need ((↑(IntKind.i64.wrap ((↑x.fst : Int) + Int.ofNat 1)).toNat : Int) ≤ entN c g l ∧ (IntKind.i64.wrap ((↑x.fst : Int) + Int.ofNat 1)).toNat ≤ x_1)
    (V.need ((entN c g l).toNat - (IntKind.i64.wrap ((↑x.fst : Int) + Int.ofNat 1)).toNat < (entN c g l).toNat - x.fst)
    (V.need (x.fst + 1 = (IntKind.i64.wrap ((↑x.fst : Int) + Int.ofNat 1)).toNat)
    (nN [(1, .pf (x_1 = x_1) rfl)]
    (V.need (IntKind.i64.wrap ((↑x.fst : Int) + Int.ofNat 1) = (↑(IntKind.i64.wrap ((↑x.fst : Int) + Int.ofNat 1)).toNat : Int))
    (nN [(1, .pf (x_1 = x_1) rfl)]
    (V.need ((IntKind.i64.wrap ((↑x.fst : Int) + Int.ofNat 1)).toNat ≤ x.fst + 1)
    (V.need (∀ (e : Nat), e < (IntKind.i64.wrap ((↑x.fst : Int) + Int.ofNat 1)).toNat → (if 0 = 0 ∧ e = x.fst then IntKind.i64.wrap (g 0) else entE c g l e) = entE c g l e) V.ok))))))))))))))
    (nN [(4, .lt2 0 1 0 1)]
    (V.need (IntKind.u64.wrap c.D ≠ Int.ofNat 0)
    (V.need (Int.ofNat 0 ≤ IntKind.i64.wrap (IntKind.i64.wrap (IntKind.i64.wrap (IntKind.i64.wrap (IntKind.i64.wrap (IntKind.i64.wrap (Int.ofNat 4 + c.H) + c.C) + IntKind.i64.wrap (Int.ofNat 2 * c.W)) + IntKind.i64.wrap (IntKind.i64.wrap (IntKind.i64.wrap (Int.ofNat 0 * c.L) + l) * IntKind.i64.wrap (Int.ofNat 2 + c.D))) + Int.ofNat 2) + IntKind.i64.wrap ((IntKind.u64.wrap (g (0 + (IntKind.i64.wrap (IntKind.i64.wrap (IntKind.i64.wrap (IntKind.i64.wrap (Int.ofNat 4 + c.H) + c.C) + IntKind.i64.wrap (Int.ofNat 2 * c.W)) + IntKind.i64.wrap (IntKind.i64.wrap (IntKind.i64.wrap (Int.ofNat 0 * c.L) + l) * IntKind.i64.wrap (Int.ofNat 2 + c.D)))).toNat) + IntKind.u64.wrap (↑x.fst : Int))).tmod (IntKind.u64.wrap c.D))) ∧ IntKind.i64.wrap (IntKind.i64.wrap (IntKind.i64.wrap (IntKind.i64.wrap (IntKind.i64.wrap (IntKind.i64.wrap (Int.ofNat 4 + c.H) + c.C) + IntKind.i64.wrap (Int.ofNat 2 * c.W)) + IntKind.i64.wrap (IntKind.i64.wrap (IntKind.i64.wrap (Int.ofNat 0 * c.L) + l) * IntKind.i64.wrap (Int.ofNat 2 + c.D))) + Int.ofNat 2) + IntKind.i64.wrap ((IntKind.u64.wrap (g (0 + (IntKind.i64.wrap (IntKind.i64.wrap (IntKind.i64.wrap (IntKind.i64.wrap (Int.ofNat 4 + c.H) + c.C) + IntKind.i64.wrap (Int.ofNat 2 * c.W)) + IntKind.i64.wrap (IntKind.i64.wrap (IntKind.i64.wrap (Int.ofNat 0 * c.L) + l) * IntKind.i64.wrap (Int.ofNat 2 + c.D)))).toNat) + IntKind.u64.wrap (↑x.fst : Int))).tmod (IntKind.u64.wrap c.D))) < (↑n : Int))
    (V.need (0 < 1 ∧ 0 + (IntKind.i64.wrap (IntKind.i64.wrap (IntKind.i64.wrap (IntKind.i64.wrap (IntKind.i64.wrap (IntKind.i64.wrap (Int.ofNat 4 + c.H) + c.C) + IntKind.i64.wrap (Int.ofNat 2 * c.W)) + IntKind.i64.wrap (IntKind.i64.wrap (IntKind.i64.wrap (Int.ofNat 0 * c.L) + l) * IntKind.i64.wrap (Int.ofNat 2 + c.D))) + Int.ofNat 2) + IntKind.i64.wrap ((IntKind.u64.wrap (g (0 + (IntKind.i64.wrap (IntKind.i64.wrap (IntKind.i64.wrap (IntKind.i64.wrap (Int.ofNat 4 + c.H) + c.C) + IntKind.i64.wrap (Int.ofNat 2 * c.W)) + IntKind.i64.wrap (IntKind.i64.wrap (IntKind.i64.wrap (Int.ofNat 0 * c.L) + l) * IntKind.i64.wrap (Int.ofNat 2 + c.D)))).toNat) + IntKind.u64.wrap (↑x.fst : Int))).tmod (IntKind.u64.wrap c.D)))).toNat < n)
    (V.need (0 < 1 ∧ 0 + (IntKind.i64.wrap (IntKind.i64.wrap (IntKind.i64.wrap (IntKind.i64.wrap (IntKind.i64.wrap (IntKind.i64.wrap (Int.ofNat 4 + c.H) + c.C) + IntKind.i64.wrap (Int.ofNat 2 * c.W)) + IntKind.i64.wrap (IntKind.i64.wrap (IntKind.i64.wrap (Int.ofNat 0 * c.L) + l) * IntKind.i64.wrap (Int.ofNat 2 + c.D))) + Int.ofNat 2) + IntKind.i64.wrap ((IntKind.u64.wrap (g (0 + (IntKind.i64.wrap (IntKind.i64.wrap (IntKind.i64.wrap (IntKind.i64.wrap (Int.ofNat 4 + c.H) + c.C) + IntKind.i64.wrap (Int.ofNat 2 * c.W)) + IntKind.i64.wrap (IntKind.i64.wrap (IntKind.i64.wrap (Int.ofNat 0 * c.L) + l) * IntKind.i64.wrap (Int.ofNat 2 + c.D)))).toNat) + IntKind.u64.wrap (↑x.fst : Int))).tmod (IntKind.u64.wrap c.D)))).toNat < n)
    (nN [(1, .lt 0 1)]
    (V.need (x.fst ≤ x.fst ∧ x.snd = x.snd)
    (V.need (x.fst + 1 ≤ 9223372036854775807 ∧ (x.fst + 1) * 8 ≤ 140737488355328)
    (V.any Nat (fun (x_1 : Nat) => x.fst + 1 ≤ x_1) fun (x_1 : Nat) => V.need ((↑(IntKind.i64.wrap ((↑x.fst : Int) + Int.ofNat 1)).toNat : Int) ≤ entN c g l ∧ (IntKind.i64.wrap ((↑x.fst : Int) + Int.ofNat 1)).toNat ≤ x_1)
    (V.need ((entN c g l).toNat - (IntKind.i64.wrap ((↑x.fst : Int) + Int.ofNat 1)).toNat < (entN c g l).toNat - x.fst)
    (V.need (x.fst + 1 = (IntKind.i64.wrap ((↑x.fst : Int) + Int.ofNat 1)).toNat)
    (nN [(1, .pf (x_1 = x_1) rfl)]
    (V.need (IntKind.i64.wrap ((↑x.fst : Int) + Int.ofNat 1) = (↑(IntKind.i64.wrap ((↑x.fst : Int) + Int.ofNat 1)).toNat : Int))
    (nN [(1, .pf (x_1 = x_1) rfl)]
    (V.need ((IntKind.i64.wrap ((↑x.fst : Int) + Int.ofNat 1)).toNat ≤ x.fst + 1)
    (V.need (∀ (e : Nat), e < (IntKind.i64.wrap ((↑x.fst : Int) + Int.ofNat 1)).toNat → (if 0 = 0 ∧ e = x.fst then IntKind.i64.wrap (g (0 + (IntKind.i64.wrap (IntKind.i64.wrap (IntKind.i64.wrap (IntKind.i64.wrap (IntKind.i64.wrap (IntKind.i64.wrap (Int.ofNat 4 + c.H) + c.C) + IntKind.i64.wrap (Int.ofNat 2 * c.W)) + IntKind.i64.wrap (IntKind.i64.wrap (IntKind.i64.wrap (Int.ofNat 0 * c.L) + l) * IntKind.i64.wrap (Int.ofNat 2 + c.D))) + Int.ofNat 2) + IntKind.i64.wrap ((IntKind.u64.wrap (g (0 + (IntKind.i64.wrap (IntKind.i64.wrap (IntKind.i64.wrap (IntKind.i64.wrap (Int.ofNat 4 + c.H) + c.C) + IntKind.i64.wrap (Int.ofNat 2 * c.W)) + IntKind.i64.wrap (IntKind.i64.wrap (IntKind.i64.wrap (Int.ofNat 0 * c.L) + l) * IntKind.i64.wrap (Int.ofNat 2 + c.D)))).toNat) + IntKind.u64.wrap (↑x.fst : Int))).tmod (IntKind.u64.wrap c.D)))).toNat)) else entE c g l e) = entE c g l e) V.ok))))))))))))))))))
    (V.need (decide (Int.ofNat 1 ≤ entN c g l ∧ entN c g l ≤ c.D) = true)
    (V.need ((entN c g l).toNat ≤ x.snd)
    (V.need (x.fst = (entN c g l).toNat)
    (nN [(2, .pf (x.snd = x.snd) rfl)]
    (V.need ((entN c g l).toNat ≤ x.fst)
    (nN [(1, .pf (∀ (e : Nat), e < (entN c g l).toNat → entE c g l e = entE c g l e) (by intros; rfl))] V.ok)))))))))))))))))))))))))))))
    (V.need (decide (Int.ofNat 1 ≤ entN c g l ∧ entN c g l ≤ c.D) = false)
    (V.need True V.ok)))) := by kernel_rfl

theorem vClW_eq (n cap : Nat) (g : Nat → Int) : vClW n cap g =
  V.need (∃ (x : Bool), x = true → ¬(0 < 1 ∧ 0 < n))
    (V.any Bool (fun (b : Bool) => b = true → ¬(0 < 1 ∧ 0 < n)) fun (x : Bool) => V.br x
    (V.need (n ≤ 0)
    (V.need (0 = n)
    (nN [(2, .eq 0 0)]
    (V.need (n ≤ 0)
    (nN [(1, .pf (∀ (e : Nat), e < n → g e = g e) (by intros; rfl))] V.ok)))))
    (V.need (0 + n ≤ n)
    (nN [(1, .eq 0 0)]
    (V.need (0 + n ≤ 9223372036854775807 ∧ (0 + n) * 8 ≤ 140737488355328)
    (V.any Nat (fun (x : Nat) => 0 + n ≤ x) fun (x : Nat) => V.need (n ≤ x)
    (V.need (0 + n = n)
    (nN [(2, .pf (x = x) rfl)]
    (V.need (n ≤ 0 + n)
    (V.need (∀ (e : Nat), e < n → g (0 + e) = g e) V.ok))))))))) := by kernel_rfl


end Go.Proofs.Ytomaagmleafjeaa.Md

/- Entries of a worker alone, by the reference: the conditions hold. -/
set_option linter.unusedVariables false
set_option linter.unusedSimpArgs false
set_option maxRecDepth 100000
namespace Go.Proofs.Ytomaagmleafjeaa.Md
open Go Go.RowKit Sx Cn Dc Ck Vc
def preEnt (c : Cf) (n : Nat) (g : Nat → Int) (l : Int) : Prop := errE c = 0 ∧ n = ncN c ∧ (0 ≤ l ∧ l < c.L) ∧ ∀ e, 0 ≤ g e ∧ g e ≤ 18446744073709551615
section
variable {c : Cf} {l : Int}
theorem ent_bd (ok : okY c) (hl : 0 ≤ l ∧ l < c.L) : (0 ≤ l * (2 + c.D) ∧ l * (2 + c.D) + (2 + c.D) ≤ c.W * c.L * (2 + c.D)) ∧ (0 ≤ c.W * c.L ∧ c.W * c.L ≤ 1024) ∧ c.W * c.L * (2 + c.D) ≤ 67584 := by
  obtain ⟨hW, hL, hC, hT, hD, hH⟩ := ok
  have b1 := mulB (by omega : 0 ≤ c.W) hW.2 (by omega : 0 ≤ c.L) hL.2
  have b2 := mulB (by omega : 0 ≤ c.W * c.L) b1.2 (by omega : 0 ≤ 2 + c.D) (by omega : 2 + c.D ≤ 66)
  have b3 : 0 ≤ l * (2 + c.D) := Int.mul_nonneg hl.1 (by omega)
  have b4 : 1 * c.L ≤ c.W * c.L := Int.mul_le_mul_of_nonneg_right hW.1 (by omega)
  have b5 : (l + 1) * (2 + c.D) ≤ c.W * c.L * (2 + c.D) := Int.mul_le_mul_of_nonneg_right (by omega) (by omega)
  rw [Int.add_mul, Int.one_mul] at b5
  omega
theorem entQ_e (ok : okY c) (hl : 0 ≤ l ∧ l < c.L) : IntKind.i64.wrap (IntKind.i64.wrap (IntKind.i64.wrap (IntKind.i64.wrap (Int.ofNat 4 + c.H) + c.C) + IntKind.i64.wrap (Int.ofNat 2 * c.W)) + IntKind.i64.wrap (IntKind.i64.wrap (IntKind.i64.wrap (Int.ofNat 0 * c.L) + l) * IntKind.i64.wrap (Int.ofNat 2 + c.D))) = entQ c l := by
  have hb := ent_bd ok hl
  obtain ⟨hW, hL, hC, hT, hD, hH⟩ := ok
  have e0 : Int.ofNat 0 * c.L = 0 := Int.zero_mul _
  rw [e0, w64 (n := 0) (by omega), Int.zero_add, w64 (n := l) (by omega)]
  simp only [Int.ofNat_eq_natCast, Int.cast_ofNat_Int]
  rw [w64 (n := 2 + c.D) (by omega), w64 (n := 4 + c.H) (by omega), w64 (n := 4 + c.H + c.C) (by omega), w64 (n := 2 * c.W) (by omega), w64 (n := l * (2 + c.D)) (by omega), w64 (n := 4 + c.H + c.C + 2 * c.W) (by omega), w64 (by omega)]
  unfold entQ lQ
  omega
theorem entC_e (ok : okY c) (hl : 0 ≤ l ∧ l < c.L) : IntKind.i64.wrap (IntKind.i64.wrap (IntKind.i64.wrap (IntKind.i64.wrap (IntKind.i64.wrap (Int.ofNat 4 + c.H) + c.C) + IntKind.i64.wrap (Int.ofNat 2 * c.W)) + IntKind.i64.wrap (IntKind.i64.wrap (c.W * c.L) * IntKind.i64.wrap (Int.ofNat 2 + c.D))) + IntKind.i64.wrap (Int.ofNat 5 * c.T)) = ncI c := by
  have hb := ent_bd ok hl
  obtain ⟨hW, hL, hC, hT, hD, hH⟩ := ok
  simp only [Int.ofNat_eq_natCast, Int.cast_ofNat_Int]
  rw [w64 (n := 2 + c.D) (by omega), w64 (n := 4 + c.H) (by omega), w64 (n := 4 + c.H + c.C) (by omega), w64 (n := 2 * c.W) (by omega), w64 (n := c.W * c.L) (by omega), w64 (n := c.W * c.L * (2 + c.D)) (by omega), w64 (n := 4 + c.H + c.C + 2 * c.W) (by omega), w64 (n := 4 + c.H + c.C + 2 * c.W + c.W * c.L * (2 + c.D)) (by omega), w64 (n := 5 * c.T) (by omega), w64 (by omega)]
  unfold ncI lT lQ
  omega
end
set_option maxHeartbeats 8000000 in
theorem vhEnt {c : Cf} {g : Nat → Int} {l : Int} {n cap : Nat} (h : preEnt c n g l) : VHolds (vEnt c g l n cap) := by
  obtain ⟨hE, hn, hl, hg⟩ := h
  have ok : okY c := okN_Y ((err_zero c).1 hE).1
  have hb := ent_bd ok hl
  have eQ := entQ_e ok hl
  have eC := entC_e ok hl
  have hq : 0 ≤ entQ c l ∧ entQ c l + 2 + c.D ≤ n ∧ (n : Int) = ncI c ∧ n ≤ 131072 := by
    have := nc_bd ok
    obtain ⟨hW, hL, hC, hT, hD, hH⟩ := ok
    rw [hn]
    unfold ncN
    have e : ncI c = 4 + c.H + c.C + c.W + c.W + c.W * c.L * (2 + c.D) + 5 * c.T := rfl
    unfold entQ lQ
    omega
  obtain ⟨hW, hL, hC, hT, hD, hH⟩ := ok
  constructor
  rw [vEnt_eq]
  have e1 : IntKind.i64.wrap (entQ c l + Int.ofNat 1) = entQ c l + 1 := w64 (by show _ ≤ _ + (1 : Int) ∧ _ + (1 : Int) ≤ _; omega)
  have e2 : IntKind.i64.wrap (entQ c l + Int.ofNat 2) = entQ c l + 2 := w64 (by show _ ≤ _ + (2 : Int) ∧ _ + (2 : Int) ≤ _; omega)
  have eN : IntKind.i64.wrap (IntKind.u64.wrap (g (entQ c l + 1).toNat - g (entQ c l).toNat)) = entN c g l := rfl
  have eD : IntKind.u64.wrap c.D = c.D := wu64 (by omega)
  simp only [eQ, eC, e1, e2, Nat.zero_add, eN, eD]
  have n0 : ¬ Int.ofNat 0 ≥ c.W := by show ¬ (0 : Int) ≥ c.W; omega
  have n1 : ¬ l < Int.ofNat 0 := by show ¬ l < (0 : Int); omega
  have n2 : ¬ l ≥ c.L := by omega
  refine nN_h rfl (V.needI trivial (V.brI (fun _ => ?_) fun h => (bft (beq_iff_eq.2 hE) h).elim))
  refine nN_h rfl (V.brI (fun h => (btf (by rw [hq.2.2.1]; simp) h).elim) fun _ => ?_)
  refine V.brI (fun h => (dge n0 h).elim) fun _ => V.brI (fun h => (dlt n1 h).elim) fun _ => V.brI (fun h => (dge n2 h).elim) fun _ => V.brI (fun h => (dge n0 h).elim) fun _ => V.brI (fun h => (dlt n1 h).elim) fun _ => V.brI (fun h => (dge n2 h).elim) fun _ => ?_
  (repeat' first | with_reducible exact V.okI | with_reducible refine V.anyCfg ?_ | with_reducible refine V.anyMm ?_ | with_reducible refine V.anyInt ?_ | with_reducible refine V.anyNat ?_ | with_reducible refine V.anyCl' ?_ | with_reducible refine nN_h rfl ?_ | with_reducible refine V.needI ?_ ?_ | with_reducible intro _)
  all_goals try first | omega | (simp only [Int.ofNat_eq_natCast, Int.natCast_zero]; omega)
  have nf : ∀ {p : Prop} {I : Decidable p}, ¬ p → @decide p I = false := fun h => decide_eq_false h
  refine V.brI (fun h => V.needI (nf fun h2 => ?_) (V.needI trivial V.okI)) fun h => ?_
  · have h3 : (1 : Int) ≤ entN c g l := h2.1
    have h4 : entN c g l < (1 : Int) := of_decide_eq_true h
    omega
  have m1 : 1 ≤ entN c g l := by
    have h4 : ¬ entN c g l < (1 : Int) := of_decide_eq_false h
    omega
  refine V.brI (fun h => V.needI (nf fun h2 => absurd h2.2 (by have := of_decide_eq_true h; omega)) (V.needI trivial V.okI)) fun h => ?_
  have m2 : entN c g l ≤ c.D := by
    have := of_decide_eq_false h
    omega
  (repeat' first | with_reducible exact V.okI | with_reducible refine V.anyCfg ?_ | with_reducible refine V.anyMm ?_ | with_reducible refine V.anyInt ?_ | with_reducible refine V.anyNat ?_ | with_reducible refine V.anyCl' ?_ | with_reducible refine nN_h rfl ?_ | with_reducible refine V.needI ?_ ?_ | with_reducible intro _)
  all_goals try first | omega | exact rfl | exact ⟨by omega, Nat.le_refl _⟩ | exact fun e h => absurd h (Nat.not_lt_zero _)
  refine V.anyI fun x hx => ?_
  obtain ⟨i, cp⟩ := x
  obtain ⟨x1, x2⟩ := hx
  dsimp only at x1 x2 ⊢
  refine V.brI (fun hi => ?_) fun hi => ?_
  · have hi : (i : Int) < entN c g l := of_decide_eq_true hi
    have ei : IntKind.i64.wrap ((i : Int) + Int.ofNat 1) = ((i + 1 : Nat) : Int) := wnat (by omega)
    have eu : IntKind.u64.wrap (i : Int) = i := wu64 (by omega)
    have hm := Int.tmod_nonneg c.D (wrap_ok (g (entQ c l).toNat + i)).1
    have hm2 := Int.tmod_lt_of_pos (IntKind.u64.wrap (g (entQ c l).toNat + i)) (by omega : 0 < c.D)
    have er : IntKind.i64.wrap (entQ c l + 2 + IntKind.i64.wrap ((IntKind.u64.wrap (g (entQ c l).toNat + i)).tmod c.D)) = ringC (entQ c l + 2) c.D (IntKind.u64.wrap (g (entQ c l).toNat + i)) := by
      unfold ringC
      rw [if_neg (by omega), eD]
    have hr : 0 ≤ ringC (entQ c l + 2) c.D (IntKind.u64.wrap (g (entQ c l).toNat + i)) ∧ ringC (entQ c l + 2) c.D (IntKind.u64.wrap (g (entQ c l).toNat + i)) < n := by
      rw [← er, w64 (n := (IntKind.u64.wrap (g (entQ c l).toNat + i)).tmod c.D) (by omega), w64 (by omega)]
      omega
    simp only [ei, eu, er, Int.toNat_natCast]
    refine nN_h rfl (V.brI (fun h => (dlt (by show ¬ c.D < (1 : Int); omega) h).elim) fun _ => ?_)
    (repeat' first | with_reducible exact V.okI | with_reducible refine V.brT ?_ | with_reducible refine V.brF ?_ | with_reducible refine V.brI ?_ ?_ | with_reducible refine V.anyI ?_ | with_reducible refine nN_h rfl ?_ | with_reducible refine V.needI ?_ ?_ | with_reducible intro _)
    all_goals first
      | omega
      | (simp only [Int.ofNat_eq_natCast, Int.natCast_zero]; omega)
      | exact ⟨Nat.le_refl _, trivial⟩
      | trivial
      | (rename_i e _
         by_cases ce : e = i
         · subst ce; rw [if_pos ⟨trivial, rfl⟩]; rfl
         · rw [if_neg fun h => ce h.2])
  · have hi : (i : Int) = entN c g l := by have := of_decide_eq_false hi; omega
    (repeat' first | with_reducible exact V.okI | with_reducible refine V.brT ?_ | with_reducible refine V.brF ?_ | with_reducible refine V.brI ?_ ?_ | with_reducible refine V.anyI ?_ | with_reducible refine nN_h rfl ?_ | with_reducible refine V.needI ?_ ?_ | with_reducible intro _)
    all_goals first
      | omega
      | exact decide_eq_true ⟨by simp only [Int.ofNat_eq_natCast]; omega, by omega⟩
      | skip
end Go.Proofs.Ytomaagmleafjeaa.Md

/- Entries of a worker alone, by the reference; cells copied: the contracts. -/
set_option linter.unusedVariables false
set_option linter.unusedSimpArgs false
set_option maxRecDepth 100000
namespace Go.Proofs.Ytomaagmleafjeaa.Md
open Go Go.RowKit Sx Cn Dc Ck Vc
theorem vhClW {n cap : Nat} {g : Nat → Int} (hn : n ≤ 1000000) : VHolds (vClW n cap g) := by
  constructor
  rw [vClW_eq]
  refine V.needI ⟨false, fun h => by cases h⟩ (V.anyI fun b hb => V.brI (fun h => ?_) fun h => ?_)
  · have : n = 0 := by have := hb h; omega
    subst this
    (repeat' first | with_reducible exact V.okI | with_reducible refine V.brT ?_ | with_reducible refine V.brF ?_ | with_reducible refine V.brI ?_ ?_ | with_reducible refine V.anyI ?_ | with_reducible refine nN_h rfl ?_ | with_reducible refine V.needI ?_ ?_ | with_reducible intro _)
    all_goals first | omega | rfl
  · (repeat' first | with_reducible exact V.okI | with_reducible refine V.brT ?_ | with_reducible refine V.brF ?_ | with_reducible refine V.brI ?_ ?_ | with_reducible refine V.anyI ?_ | with_reducible refine nN_h rfl ?_ | with_reducible refine V.needI ?_ ?_ | with_reducible intro _)
    all_goals first | omega | (rw [Nat.zero_add]) | (intros; rw [Nat.zero_add])
noncomputable section
def cEnt : List SV → Hp → Out (SV × Hp) := fun args H => match args with
  | [.a [x0, x1, x2, x3, x4, x5, x6, x7, x8, .slc kr _ _ _ nP rc, .slc ku _ _ _ nU cu], .c (.slc kc _ _ _ n cap), .c (.ki .i64 _), .c xl] => match numC x0, numC x1, numC x2, numC x3, numC x4, numC x5, numC x6, numC x7, numC x8, numC xl with
    | some W, some L, some C, some T, some D, some h, some B, some A, some Q, some l => fN kr fun kr => fN ku fun ku => fN kc fun kc => match (find kc H.h).map colsB with
      | some [col] => match colG col with
        | some gc => cfBlk H.h kr ku fun kF ln cp o a b f g k => useP [kr, ku, kF, kc] 4 [argC ⟨W, L, C, T, D, h, B, A, Q, nP.v, rc.v, nU.v, cu.v, fun e => ln 0 e, fun e => cp 0 e, o, a, b, fun e => f 0 e, fun e => g 0 e, fun e => k 0 e⟩, .c (slK 3 1 n.v cap.v), .c (.ki .i64 0), iv l]
            (hEnt ⟨W, L, C, T, D, h, B, A, Q, nP.v, rc.v, nU.v, cu.v, fun e => ln 0 e, fun e => cp 0 e, o, a, b, fun e => f 0 e, fun e => g 0 e, fun e => k 0 e⟩ n.v fun e => gc e)
            (.need (preEnt ⟨W, L, C, T, D, h, B, A, Q, nP.v, rc.v, nU.v, cu.v, fun e => ln 0 e, fun e => cp 0 e, o, a, b, fun e => f 0 e, fun e => g 0 e, fun e => k 0 e⟩ n.v (fun e => gc e) l) (psEnt ⟨W, L, C, T, D, h, B, A, Q, nP.v, rc.v, nU.v, cu.v, fun e => ln 0 e, fun e => cp 0 e, o, a, b, fun e => f 0 e, fun e => g 0 e, fun e => k 0 e⟩ (fun e => gc e) l).out) args H
        | none => .bad 432
      | _ => .bad 433
    | _, _, _, _, _, _, _, _, _, _ => .bad 434
  | _ => .bad 435
theorem cEnt_ok : ContractOK P fEnt cEnt := contract_of_useP fun args H => by
  unfold cEnt
  simp only [fN_eq]
  repeat' split
  all_goals first | exact .inl ⟨_, rfl⟩ | exact (cfBlk_ok _ _ _ _).elim .inl fun ⟨_, _, _, _, _, _, _, _, _, e⟩ => .inr ⟨_, _, _, _, _, e, local_of_ps conEt0_ok fun h => vhEnt h⟩
def cClW : List SV → Hp → Out (SV × Hp) := fun args H => match args with
  | [.c (.slc k _ _ _ n cap)] => fN k fun k => match (find k H.h).map colsB with
    | some [col] => match colG col with
      | some g => useP [k] 1 [.c (slK 0 1 n.v cap.v)] [(0, .view 1 (fun _ => n.v) [.ci .u64 fun _ e => g e])] (.need (n.v ≤ 1000000) (.any Nat (fun c => n.v ≤ c) fun c => .leaf (.c (slK 1 1 n.v c), ⟨[(1, .row 58 c n.v [.ci .u64 fun _ e => g e])], 2, fun _ => True⟩))) args H
      | none => .bad 432
    | _ => .bad 433
  | _ => .bad 435
theorem cClW_ok : ContractOK P fClW cClW := contract_of_useP fun args H => by
  unfold cClW
  simp only [fN_eq]
  repeat' split
  all_goals first | exact .inl ⟨_, rfl⟩ | exact .inr ⟨_, _, _, _, _, rfl, local_of_ver ConOK.nil fun h => vhClW h⟩
end
end Go.Proofs.Ytomaagmleafjeaa.Md
